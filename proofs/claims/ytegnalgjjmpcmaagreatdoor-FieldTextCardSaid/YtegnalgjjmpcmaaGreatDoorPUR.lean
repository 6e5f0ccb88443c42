import Derived.Test.YtegnalgjjmpcmaaGreatDoorPUD
import Derived.Test.YtegnalgjjmpcmaaGreatDoorPUJ
set_option linter.unusedVariables false
set_option linter.unusedSimpArgs false
set_option maxRecDepth 100000
set_option maxHeartbeats 8000000
namespace Go.Proofs.YtegnalgjjmpcmaaGreatDoor
open Go.RowKit
theorem zpT (t:ByteArray) (i:Nat) (hi:i≤400) (hd:∀ j,j<i→digAt t j≤9):(digs 16777216 (numAt t i * 10)).length≤401:=by
 have h:=zal (B:=16777216) (k:=i+1) (n:=numAt t i * 10) (by decide) (Nat.lt_of_lt_of_le (by
  have h1:=zeI t i hd
  rw [Nat.pow_succ]
  omega) (Nat.pow_le_pow_left (show 10≤16777216 by decide) (i+1)))
 omega
theorem zpK (A:Option Addr) (c b n:Nat) (W:World) (h1:RdAt W .i64 A (digs 16777216 n)) (h2:RdAt W .i64 (some ⟨b,0,none⟩) [10]) (hl:(digs 16777216 n).length≤400) :
  Calls Tryz.prog 147 #[.slice A (digs 16777216 n).length c,.slice (some ⟨b,0,none⟩) 1 1] W (RetD .i64 16777216 (n * 10) W):=by
 have e:=ziZ (M:=16777216) (by decide)
 have h:=zdi A (some ⟨b,0,none⟩) c 1 n 10 W h1 (by rw [e];exact h2) (by omega) (by rw [e];decide)
 rw [e] at h
 exact h
theorem zlJ (b dv:Nat) (W:World) (hd9:dv≤9) (h1:RdAt W .i64 (some ⟨b,0,none⟩) [dv]) :
  Calls Tryz.prog 170 #[.slice (some ⟨b,0,none⟩) 1 1] W (fun e w'=>e = .returned (.slice (some ⟨b,0,none⟩) (digs 16777216 dv).length 1)∧Below W.heap.size W w') :=
 (zaZ (some ⟨b,0,none⟩) 1 1 [dv] W (Lib.hid rfl) (Lib.hid h1) (by omega) (by omega)).mono (by
  rintro e w' ⟨rfl,rfl⟩
  exact ⟨by rw [zdL (M:=16777216) (by decide) hd9],Below.refl _ _⟩)
theorem zpW (P:Option Addr) (cp b p dv r:Nat) (W:World) (hd9:dv≤9) (h1:RdAt W .i64 P (digs 16777216 p)) (h2:(digs 16777216 p).length≤cp) (h3:RdAt W .i64 (some ⟨b,0,none⟩) [dv]) (hl:(digs 16777216 p).length≤401) (hr:r=p+dv) :
  Calls Tryz.prog 148 #[.slice P (digs 16777216 p).length cp,.slice (some ⟨b,0,none⟩) (digs 16777216 dv).length 1] W (RetD .i64 16777216 r W):=by
 have hl1:(digs 16777216 dv).length≤1:=zal (by decide) (by omega)
 have h:=zcv P (some ⟨b,0,none⟩) cp 1 p dv W h1 (by rw [← zdL (M:=16777216) (by decide) hd9];exact h3.trimL) (by omega) (by omega) h2 hl1
 rw [hr]
 exact h
theorem zkI (s:ByteArray) (w:World) (h0:0<s.size) (h45:¬ (s[0]'h0).toNat=45) (h48:¬ (s[0]'h0).toNat=48) (hd:AllD s) (hl:(s).size≤400) :
  Calls Tryz.prog 202 #[.string s] w (RetIE (sgnd false (numAt s (s).size)) 0 w):=by
 have HD:=Lib.hid hd
 clear hd
 have hl':¬ (400:Int)<(s).size:=by omega
 obtain ⟨e1,e2⟩:=za3 h0
 go_enter Tryz.func202,Tryz.ntmps202
 go_wp2_with fail
 have t2:=Ob.new (w) 23 #[.bool false,.string ⟨#[]⟩]
 have bl:=((Below.refl w.heap.size w).alloc (Nat.le_refl _) (.cells #[.bool false,.string ⟨#[]⟩] 23))
 try simp only [World.size_alloc] at t2
 generalize World.alloc w _=W1 at t2 bl ⊢
 clear h45
 go_loopw [5] (fun v5 wr=>∃ i:Nat,i≤(s).size∧v5 = .int .i64 i∧Ob wr w.heap.size 23 #[.bool false,.string ⟨#[]⟩]∧Below w.heap.size w wr) (fun v5 _=>(s).size - (intOf v5).toNat)
 case atStart=>exact ⟨0,by omega,rfl,t2,bl⟩
 case round =>
  clear t2 bl
  obtain ⟨i,hi,rfl,t2,bl⟩:=hrel
  by_cases hil:i<(s).size
  ·obtain ⟨c1,c2⟩:=HD.out i hil
   have c1':¬ ((s[i].toNat:Nat):Int)<48:=by omega
   have c2':¬ (57:Int)<((s[i].toNat:Nat):Int):=by omega
   go_wp2_with fail
   go_roundw
   case rel=>exact ⟨i+1,by omega,by go_num,t2,bl⟩
   case measure=>simp [intOf];omega
  ·obtain rfl:i=(s).size:=by omega
   skip
   go_wp2_with fail
   go_loopw [6,7] (fun v6 v7 wr=>∃ (i:Nat) (A:Option Addr) (c:Nat),i≤(s).size∧v7 = .int .i64 i∧v6 = .slice A (digs 16777216 (numAt s i)).length c∧(digs 16777216 (numAt s i)).length≤c∧Hid (RdAt wr .i64 A (digs 16777216 (numAt s i)))∧Ob wr w.heap.size 23 #[.bool false,.string ⟨#[]⟩]∧Below w.heap.size w wr) (fun _ v7 _=>(s).size - (intOf v7).toNat)
   case atStart=>exact ⟨0,none,0,by omega,rfl,by rw [numAt,zak];rfl,by rw [numAt,zak];exact Nat.le_refl _,Lib.hid (by rw [numAt,zak];exact RdAt.nil _ _ _),t2,bl⟩
   case round =>
    clear t2 bl
    obtain ⟨i,A,c,hi,rfl,rfl,hc,hr,t2,bl⟩:=hrel
    have hlen:(digs 16777216 (numAt s i)).length≤400:=Nat.le_trans (zdP _ (by decide) s i (fun j _=>HD.out.dig j)) (by omega)
    by_cases hil:i<(s).size
    ·obtain ⟨c1,c2⟩:=HD.out i hil
     obtain ⟨dv,hdv⟩:∃ d,d=digAt s i:=⟨_,rfl⟩
     have hdt:digAt s i=s[i].toNat - 48:=by unfold digAt;rw [dif_pos hil]
     have hd9:dv≤9:=by omega
     have hlen2:=zpT s i (by omega) (fun j _=>HD.out.dig j)
     have HMUL:=fun (A:Option Addr) c b W h1 h2=>Lib.hid (zpK A c b (numAt s i) W h1 h2 hlen)
     have HTRM:=fun b W h1=>Lib.hid (zlJ b dv W hd9 h1)
     have HADD:=fun (P:Option Addr) cp b W h1 h2 h3=>Lib.hid (zpW P cp b (numAt s i * 10) dv (numAt s (i+1)) W hd9 h1 h2 h3 hlen2 (by rw [hdv];rfl))
     have q1:IntKind.u8.wrap (((s[i].toNat:Nat):Int) - 48)=(dv:Int):=by rw [show ((s[i].toNat:Nat):Int) - 48=(dv:Int) from by omega];exact wrb8 (by omega) (by omega)
     have q2:IntKind.i64.wrap (dv:Int)=(dv:Int):=wr64 (by omega) (by omega)
     have i1:(0:Int)≤(i:Int):=by omega
     have i2:(i:Int)<(s).size:=by omega
     have HDV:=Lib.hid hdv
     clear hdv hdt
     go_wp2_with fail
     refine zdN (CB wr) 11 (.look 0 (.look 3 (.look 4 (.look 5 (.look 6 (.look 7 (.two 1 8 (.two 2 8 (.one 8 (.one 9 (.one 10 .nil))) (.one 2 (.one 9 (.one 10 .nil)))) (.one 1 (.one 2 (.one 9 (.one 10 .nil))))))))))) (by kernel_rfl) (by kernel_rfl) (CB.drew0 wr) ?_
     refine wpTr.eye _ (.slice A (digs 16777216 (numAt s i)).length c) rfl (by kernel_rfl) (by intro w' hC;go_simp) ?_
     try simp only [Act.put,sIt,sIz,sIs]
     refine wpTr.eye _ (.string s) rfl (by kernel_rfl) (by intro w' hC;go_simp) ?_
     try simp only [Act.put,sIt,sIz,sIs]
     refine wpTr.eye _ (.int .i64 i) rfl (by kernel_rfl) (by intro w' hC;go_simp) ?_
     try simp only [Act.put,sIt,sIz,sIs]
     refine wpTr.eye _ (.int .u8 ((s[i]'hil).toNat:Nat)) rfl (by kernel_rfl) (by intro w' hC;go_simp) ?_
     try simp only [Act.put,sIt,sIz,sIs]
     refine wpTr.eye _ (.int .u8 (dv:Nat)) rfl (by kernel_rfl) (by intro w' hC;go_simp) ?_
     try simp only [Act.put,sIt,sIz,sIs]
     refine wpTr.eye _ (.int .i64 (dv:Nat)) rfl (by kernel_rfl) (by intro w' hC;go_simp) ?_
     try simp only [Act.put,sIt,sIz,sIs]
     clear q1 q2 i1 i2
     have hS:=CB.drew0 wr
     have hr:=Lib.hid (hr.out.below ((Below.refl wr.heap.size wr).drew))
     have t2:=t2.below ((Below.refl wr.heap.size wr).drew) t2.lt
     have bl:=bl.trans (Below.mono ((Below.refl wr.heap.size wr).drew) bl.size)
     generalize World.drew wr=V0 at hS hr t2 bl ⊢
     refine wpTr.do2 ?_ ?_
     focus
      refine wpTr.do1 _ rfl (fun K hK=>?_)
      go_simp
      have hS2:=hS.step ((Below.refl V0.heap.size V0).alloc (Nat.le_refl _) (.cells #[.int .i64 (10:Nat)] 3))
      refine hK.out _ _ hS2 ?_
      clear hK K
      have hT:=Lib.hid (zaY (Ob.new V0 3 #[.int .i64 (10:Nat)]))
      have hA:=(Below.refl V0.heap.size V0).alloc (Nat.le_refl _) (.cells #[.int .i64 (10:Nat)] 3)
      have hr:=Lib.hid (hr.out.below hA)
      have t2:=t2.below hA t2.lt
      have bl:=bl.trans (Below.mono hA bl.size)
      have hS:=hS2
      clear hS2 hA
      generalize hbn:V0.heap.size=bhT at *
      clear hbn
      generalize World.alloc V0 _=V1 at *
      try simp only [Act.put,sIt,sIz,sIs]
      refine wpTr.do2 ?_ ?_
      focus
       refine wpTr.do1 _ rfl (fun K hK=>?_)
       go_simp
       refine (HMUL A c bhT V1 hr.out hT.out).out.mono ?_
       rintro e V2 ⟨P,cp,rfl,hcp,hP0,hb⟩
       have hS2:=hS.step hb
       dsimp only
       refine hK.out _ _ hS2 ?_
       clear hK K
       have t2:=t2.bl hb
       have bl:=bl.upb hb bl.size
       have hS:=hS2
       clear hS2 hb
       try simp only [Act.put,sIt,sIz,sIs]
       have hP:=Lib.hid hP0
       have hCP:=Lib.hid hcp
       clear hP0 hcp
       refine wpTr.do1 _ rfl (fun K hK=>?_)
       go_simp
       have hS2:=hS.step ((Below.refl V2.heap.size V2).alloc (Nat.le_refl _) (.cells #[.int .i64 (dv:Nat)] 3))
       refine hK.out _ _ hS2 ?_
       clear hK K
       have hD:=Lib.hid (zaY (Ob.new V2 3 #[.int .i64 (dv:Nat)]))
       have hA:=(Below.refl V2.heap.size V2).alloc (Nat.le_refl _) (.cells #[.int .i64 (dv:Nat)] 3)
       have hP:=Lib.hid (hP.out.below hA)
       have t2:=t2.below hA t2.lt
       have bl:=bl.trans (Below.mono hA bl.size)
       have hS:=hS2
       clear hS2 hA
       generalize hbn:V2.heap.size=bhD at *
       clear hbn
       generalize World.alloc V2 _=V3 at *
       try simp only [Act.put,sIt,sIz,sIs]
       refine wpTr.do1 _ rfl (fun K hK=>?_)
       go_simp
       refine (HTRM bhD V3 hD.out).out.mono ?_
       rintro e V4 ⟨rfl,hb⟩
       have hS2:=hS.step hb
       dsimp only
       refine hK.out _ _ hS2 ?_
       clear hK K
       have hP:=Lib.hid (hP.out.below hb)
       have hD:=Lib.hid (hD.out.below hb)
       have t2:=t2.bl hb
       have bl:=bl.upb hb bl.size
       have hS:=hS2
       clear hS2 hb
       try simp only [Act.put,sIt,sIz,sIs]
       refine wpTr.do1 _ rfl (fun K hK=>?_)
       go_simp
       refine (HADD P cp bhD V4 hP.out hCP.out (Lib.hid hD.out).out).out.mono ?_
       rintro e V5 ⟨R,cr,rfl,hcr,hR0,hb⟩
       have hS2:=hS.step hb
       dsimp only
       refine hK.out _ _ hS2 ?_
       clear hK K
       have t2:=t2.bl hb
       have bl:=bl.upb hb bl.size
       have hS:=hS2
       clear hS2 hb
       try simp only [Act.put,sIt,sIz,sIs]
       have hR:=Lib.hid hR0
       clear hR0
       simp only [wpTr,List.drop_succ_cons,List.drop_zero]
       go_wp2_with fail
       refine NoPanic.normal ?_
       go_wp2_with fail
       go_roundw
       case rel=>exact ⟨i+1,R,cr,by omega,by go_num,rfl,hcr,hR,t2,bl⟩
       case measure=>simp [intOf];omega
      focus
       refine wpTr.do1 _ rfl (fun K hK=>?_)
       go_simp
       have hS2:=hS.step ((Below.refl V1.heap.size V1).alloc (Nat.le_refl _) (.cells #[.int .i64 (dv:Nat)] 3))
       refine hK.out _ _ hS2 ?_
       clear hK K
       have hD:=Lib.hid (zaY (Ob.new V1 3 #[.int .i64 (dv:Nat)]))
       have hA:=(Below.refl V1.heap.size V1).alloc (Nat.le_refl _) (.cells #[.int .i64 (dv:Nat)] 3)
       have hr:=Lib.hid (hr.out.below hA)
       have hT:=Lib.hid (hT.out.below hA)
       have t2:=t2.below hA t2.lt
       have bl:=bl.trans (Below.mono hA bl.size)
       have hS:=hS2
       clear hS2 hA
       generalize hbn:V1.heap.size=bhD at *
       clear hbn
       generalize World.alloc V1 _=V6 at *
       try simp only [Act.put,sIt,sIz,sIs]
       refine wpTr.do1 _ rfl (fun K hK=>?_)
       go_simp
       refine (HMUL A c bhT V6 hr.out hT.out).out.mono ?_
       rintro e V7 ⟨P,cp,rfl,hcp,hP0,hb⟩
       have hS2:=hS.step hb
       dsimp only
       refine hK.out _ _ hS2 ?_
       clear hK K
       have hD:=Lib.hid (hD.out.below hb)
       have t2:=t2.bl hb
       have bl:=bl.upb hb bl.size
       have hS:=hS2
       clear hS2 hb
       try simp only [Act.put,sIt,sIz,sIs]
       have hP:=Lib.hid hP0
       have hCP:=Lib.hid hcp
       clear hP0 hcp
       refine wpTr.do1 _ rfl (fun K hK=>?_)
       go_simp
       refine (HTRM bhD V7 hD.out).out.mono ?_
       rintro e V8 ⟨rfl,hb⟩
       have hS2:=hS.step hb
       dsimp only
       refine hK.out _ _ hS2 ?_
       clear hK K
       have hP:=Lib.hid (hP.out.below hb)
       have hD:=Lib.hid (hD.out.below hb)
       have t2:=t2.bl hb
       have bl:=bl.upb hb bl.size
       have hS:=hS2
       clear hS2 hb
       try simp only [Act.put,sIt,sIz,sIs]
       refine wpTr.do1 _ rfl (fun K hK=>?_)
       go_simp
       refine (HADD P cp bhD V8 hP.out hCP.out (Lib.hid hD.out).out).out.mono ?_
       rintro e V9 ⟨R,cr,rfl,hcr,hR0,hb⟩
       have hS2:=hS.step hb
       dsimp only
       refine hK.out _ _ hS2 ?_
       clear hK K
       have t2:=t2.bl hb
       have bl:=bl.upb hb bl.size
       have hS:=hS2
       clear hS2 hb
       try simp only [Act.put,sIt,sIz,sIs]
       have hR:=Lib.hid hR0
       clear hR0
       simp only [wpTr,List.drop_succ_cons,List.drop_zero]
       go_wp2_with fail
       refine NoPanic.normal ?_
       go_wp2_with fail
       go_roundw
       case rel=>exact ⟨i+1,R,cr,by omega,by go_num,rfl,hcr,hR,t2,bl⟩
       case measure=>simp [intOf];omega
     focus
      refine wpTr.do1 _ rfl (fun K hK=>?_)
      go_simp
      have hS2:=hS.step ((Below.refl V0.heap.size V0).alloc (Nat.le_refl _) (.cells #[.int .i64 (dv:Nat)] 3))
      refine hK.out _ _ hS2 ?_
      clear hK K
      have hD:=Lib.hid (zaY (Ob.new V0 3 #[.int .i64 (dv:Nat)]))
      have hA:=(Below.refl V0.heap.size V0).alloc (Nat.le_refl _) (.cells #[.int .i64 (dv:Nat)] 3)
      have hr:=Lib.hid (hr.out.below hA)
      have t2:=t2.below hA t2.lt
      have bl:=bl.trans (Below.mono hA bl.size)
      have hS:=hS2
      clear hS2 hA
      generalize hbn:V0.heap.size=bhD at *
      clear hbn
      generalize World.alloc V0 _=V10 at *
      try simp only [Act.put,sIt,sIz,sIs]
      refine wpTr.do1 _ rfl (fun K hK=>?_)
      go_simp
      have hS2:=hS.step ((Below.refl V10.heap.size V10).alloc (Nat.le_refl _) (.cells #[.int .i64 (10:Nat)] 3))
      refine hK.out _ _ hS2 ?_
      clear hK K
      have hT:=Lib.hid (zaY (Ob.new V10 3 #[.int .i64 (10:Nat)]))
      have hA:=(Below.refl V10.heap.size V10).alloc (Nat.le_refl _) (.cells #[.int .i64 (10:Nat)] 3)
      have hr:=Lib.hid (hr.out.below hA)
      have hD:=Lib.hid (hD.out.below hA)
      have t2:=t2.below hA t2.lt
      have bl:=bl.trans (Below.mono hA bl.size)
      have hS:=hS2
      clear hS2 hA
      generalize hbn:V10.heap.size=bhT at *
      clear hbn
      generalize World.alloc V10 _=V11 at *
      try simp only [Act.put,sIt,sIz,sIs]
      refine wpTr.do1 _ rfl (fun K hK=>?_)
      go_simp
      refine (HMUL A c bhT V11 hr.out hT.out).out.mono ?_
      rintro e V12 ⟨P,cp,rfl,hcp,hP0,hb⟩
      have hS2:=hS.step hb
      dsimp only
      refine hK.out _ _ hS2 ?_
      clear hK K
      have hD:=Lib.hid (hD.out.below hb)
      have t2:=t2.bl hb
      have bl:=bl.upb hb bl.size
      have hS:=hS2
      clear hS2 hb
      try simp only [Act.put,sIt,sIz,sIs]
      have hP:=Lib.hid hP0
      have hCP:=Lib.hid hcp
      clear hP0 hcp
      refine wpTr.do1 _ rfl (fun K hK=>?_)
      go_simp
      refine (HTRM bhD V12 hD.out).out.mono ?_
      rintro e V13 ⟨rfl,hb⟩
      have hS2:=hS.step hb
      dsimp only
      refine hK.out _ _ hS2 ?_
      clear hK K
      have hP:=Lib.hid (hP.out.below hb)
      have hD:=Lib.hid (hD.out.below hb)
      have t2:=t2.bl hb
      have bl:=bl.upb hb bl.size
      have hS:=hS2
      clear hS2 hb
      try simp only [Act.put,sIt,sIz,sIs]
      refine wpTr.do1 _ rfl (fun K hK=>?_)
      go_simp
      refine (HADD P cp bhD V13 hP.out hCP.out (Lib.hid hD.out).out).out.mono ?_
      rintro e V14 ⟨R,cr,rfl,hcr,hR0,hb⟩
      have hS2:=hS.step hb
      dsimp only
      refine hK.out _ _ hS2 ?_
      clear hK K
      have t2:=t2.bl hb
      have bl:=bl.upb hb bl.size
      have hS:=hS2
      clear hS2 hb
      try simp only [Act.put,sIt,sIz,sIs]
      have hR:=Lib.hid hR0
      clear hR0
      simp only [wpTr,List.drop_succ_cons,List.drop_zero]
      go_wp2_with fail
      refine NoPanic.normal ?_
      go_wp2_with fail
      go_roundw
      case rel=>exact ⟨i+1,R,cr,by omega,by go_num,rfl,hcr,hR,t2,bl⟩
      case measure=>simp [intOf];omega
    ·obtain rfl:i=(s).size:=by omega
     have HW:=Lib.hid (zaB A c (numAt s (s).size) false wr hr.out (by omega))
     have hlt:¬ (s.size:Int)<s.size:=by omega
     go_wp2_with fail
     refine (HW.out).mono ?_
     rintro e W1 ⟨rfl,hb⟩
     have t2:=t2.bl hb
     have bl:=bl.upb hb bl.size
     clear hb
     try simp only [ptr,Act.put,sIt,sIz,sIs]
     have fr2:=t2.free
     obtain ⟨z2_0,z2_1⟩:=t2.cells2
     go_wp2_with fail
     clear fr2 z2_0 z2_1
     have t2:=t2.set2 (.bool (sg (sgnd false (numAt s (s).size)))) (.string (mg (sgnd false (numAt s (s).size))))
     have bl:=(zah (zah bl (show w.heap.size≤w.heap.size by omega) 0 (.bool (sg (sgnd false (numAt s (s).size))))) (show w.heap.size≤w.heap.size by omega) 1 (.string (mg (sgnd false (numAt s (s).size)))))
     generalize World.setCell (World.setCell W1 _ _) _ _=W2 at t2 bl ⊢
     obtain ⟨r2_0,r2_1⟩:=t2.cells2
     exact bodyPost_ret (v:=.tuple #[vI (sgnd false (numAt s (s).size)),.int .i64 0]) (by simp [results,Tryz.results202,go_sem,r2_0,r2_1]) rfl (⟨rfl,bl⟩)
theorem zkB (s:ByteArray) (w:World) (h0:0<s.size) (h45:¬ (s[0]'h0).toNat=45) (h48:(s[0]'h0).toNat=48) (hz:s=⟨#[48]⟩) (hd:AllD s) (hl:(s).size≤400) :
  Calls Tryz.prog 202 #[.string s] w (RetIE (sgnd false (numAt s (s).size)) 0 w):=by
 have HD:=Lib.hid hd
 clear hd
 have hl':¬ (400:Int)<(s).size:=by omega
 obtain ⟨e1,e2⟩:=za3 h0
 have HZ:=Lib.hid hz
 clear hz
 go_enter Tryz.func202,Tryz.ntmps202
 go_wp2_with fail
 have t2:=Ob.new (w) 23 #[.bool false,.string ⟨#[]⟩]
 have bl:=((Below.refl w.heap.size w).alloc (Nat.le_refl _) (.cells #[.bool false,.string ⟨#[]⟩] 23))
 try simp only [World.size_alloc] at t2
 generalize World.alloc w _=W1 at t2 bl ⊢
 clear h45
 go_loopw [5] (fun v5 wr=>∃ i:Nat,i≤(s).size∧v5 = .int .i64 i∧Ob wr w.heap.size 23 #[.bool false,.string ⟨#[]⟩]∧Below w.heap.size w wr) (fun v5 _=>(s).size - (intOf v5).toNat)
 case atStart=>exact ⟨0,by omega,rfl,t2,bl⟩
 case round =>
  clear t2 bl
  obtain ⟨i,hi,rfl,t2,bl⟩:=hrel
  by_cases hil:i<(s).size
  ·obtain ⟨c1,c2⟩:=HD.out i hil
   have c1':¬ ((s[i].toNat:Nat):Int)<48:=by omega
   have c2':¬ (57:Int)<((s[i].toNat:Nat):Int):=by omega
   go_wp2_with fail
   go_roundw
   case rel=>exact ⟨i+1,by omega,by go_num,t2,bl⟩
   case measure=>simp [intOf];omega
  ·obtain rfl:i=(s).size:=by omega
   have z1:s.toList = [48]:=by rw [HZ.out,ByteArray.toList_eq]
   go_wp2_with fail
   go_loopw [6,7] (fun v6 v7 wr=>∃ (i:Nat) (A:Option Addr) (c:Nat),i≤(s).size∧v7 = .int .i64 i∧v6 = .slice A (digs 16777216 (numAt s i)).length c∧(digs 16777216 (numAt s i)).length≤c∧Hid (RdAt wr .i64 A (digs 16777216 (numAt s i)))∧Ob wr w.heap.size 23 #[.bool false,.string ⟨#[]⟩]∧Below w.heap.size w wr) (fun _ v7 _=>(s).size - (intOf v7).toNat)
   case atStart=>exact ⟨0,none,0,by omega,rfl,by rw [numAt,zak];rfl,by rw [numAt,zak];exact Nat.le_refl _,Lib.hid (by rw [numAt,zak];exact RdAt.nil _ _ _),t2,bl⟩
   case round =>
    clear t2 bl
    obtain ⟨i,A,c,hi,rfl,rfl,hc,hr,t2,bl⟩:=hrel
    have hlen:(digs 16777216 (numAt s i)).length≤400:=Nat.le_trans (zdP _ (by decide) s i (fun j _=>HD.out.dig j)) (by omega)
    by_cases hil:i<(s).size
    ·obtain ⟨c1,c2⟩:=HD.out i hil
     obtain ⟨dv,hdv⟩:∃ d,d=digAt s i:=⟨_,rfl⟩
     have hdt:digAt s i=s[i].toNat - 48:=by unfold digAt;rw [dif_pos hil]
     have hd9:dv≤9:=by omega
     have hlen2:=zpT s i (by omega) (fun j _=>HD.out.dig j)
     have HMUL:=fun (A:Option Addr) c b W h1 h2=>Lib.hid (zpK A c b (numAt s i) W h1 h2 hlen)
     have HTRM:=fun b W h1=>Lib.hid (zlJ b dv W hd9 h1)
     have HADD:=fun (P:Option Addr) cp b W h1 h2 h3=>Lib.hid (zpW P cp b (numAt s i * 10) dv (numAt s (i+1)) W hd9 h1 h2 h3 hlen2 (by rw [hdv];rfl))
     have q1:IntKind.u8.wrap (((s[i].toNat:Nat):Int) - 48)=(dv:Int):=by rw [show ((s[i].toNat:Nat):Int) - 48=(dv:Int) from by omega];exact wrb8 (by omega) (by omega)
     have q2:IntKind.i64.wrap (dv:Int)=(dv:Int):=wr64 (by omega) (by omega)
     have i1:(0:Int)≤(i:Int):=by omega
     have i2:(i:Int)<(s).size:=by omega
     have HDV:=Lib.hid hdv
     clear hdv hdt
     go_wp2_with fail
     refine zdN (CB wr) 11 (.look 0 (.look 3 (.look 4 (.look 5 (.look 6 (.look 7 (.two 1 8 (.two 2 8 (.one 8 (.one 9 (.one 10 .nil))) (.one 2 (.one 9 (.one 10 .nil)))) (.one 1 (.one 2 (.one 9 (.one 10 .nil))))))))))) (by kernel_rfl) (by kernel_rfl) (CB.drew0 wr) ?_
     refine wpTr.eye _ (.slice A (digs 16777216 (numAt s i)).length c) rfl (by kernel_rfl) (by intro w' hC;go_simp) ?_
     try simp only [Act.put,sIt,sIz,sIs]
     refine wpTr.eye _ (.string s) rfl (by kernel_rfl) (by intro w' hC;go_simp) ?_
     try simp only [Act.put,sIt,sIz,sIs]
     refine wpTr.eye _ (.int .i64 i) rfl (by kernel_rfl) (by intro w' hC;go_simp) ?_
     try simp only [Act.put,sIt,sIz,sIs]
     refine wpTr.eye _ (.int .u8 ((s[i]'hil).toNat:Nat)) rfl (by kernel_rfl) (by intro w' hC;go_simp) ?_
     try simp only [Act.put,sIt,sIz,sIs]
     refine wpTr.eye _ (.int .u8 (dv:Nat)) rfl (by kernel_rfl) (by intro w' hC;go_simp) ?_
     try simp only [Act.put,sIt,sIz,sIs]
     refine wpTr.eye _ (.int .i64 (dv:Nat)) rfl (by kernel_rfl) (by intro w' hC;go_simp) ?_
     try simp only [Act.put,sIt,sIz,sIs]
     clear q1 q2 i1 i2
     have hS:=CB.drew0 wr
     have hr:=Lib.hid (hr.out.below ((Below.refl wr.heap.size wr).drew))
     have t2:=t2.below ((Below.refl wr.heap.size wr).drew) t2.lt
     have bl:=bl.trans (Below.mono ((Below.refl wr.heap.size wr).drew) bl.size)
     generalize World.drew wr=V0 at hS hr t2 bl ⊢
     refine wpTr.do2 ?_ ?_
     focus
      refine wpTr.do1 _ rfl (fun K hK=>?_)
      go_simp
      have hS2:=hS.step ((Below.refl V0.heap.size V0).alloc (Nat.le_refl _) (.cells #[.int .i64 (10:Nat)] 3))
      refine hK.out _ _ hS2 ?_
      clear hK K
      have hT:=Lib.hid (zaY (Ob.new V0 3 #[.int .i64 (10:Nat)]))
      have hA:=(Below.refl V0.heap.size V0).alloc (Nat.le_refl _) (.cells #[.int .i64 (10:Nat)] 3)
      have hr:=Lib.hid (hr.out.below hA)
      have t2:=t2.below hA t2.lt
      have bl:=bl.trans (Below.mono hA bl.size)
      have hS:=hS2
      clear hS2 hA
      generalize hbn:V0.heap.size=bhT at *
      clear hbn
      generalize World.alloc V0 _=V1 at *
      try simp only [Act.put,sIt,sIz,sIs]
      refine wpTr.do2 ?_ ?_
      focus
       refine wpTr.do1 _ rfl (fun K hK=>?_)
       go_simp
       refine (HMUL A c bhT V1 hr.out hT.out).out.mono ?_
       rintro e V2 ⟨P,cp,rfl,hcp,hP0,hb⟩
       have hS2:=hS.step hb
       dsimp only
       refine hK.out _ _ hS2 ?_
       clear hK K
       have t2:=t2.bl hb
       have bl:=bl.upb hb bl.size
       have hS:=hS2
       clear hS2 hb
       try simp only [Act.put,sIt,sIz,sIs]
       have hP:=Lib.hid hP0
       have hCP:=Lib.hid hcp
       clear hP0 hcp
       refine wpTr.do1 _ rfl (fun K hK=>?_)
       go_simp
       have hS2:=hS.step ((Below.refl V2.heap.size V2).alloc (Nat.le_refl _) (.cells #[.int .i64 (dv:Nat)] 3))
       refine hK.out _ _ hS2 ?_
       clear hK K
       have hD:=Lib.hid (zaY (Ob.new V2 3 #[.int .i64 (dv:Nat)]))
       have hA:=(Below.refl V2.heap.size V2).alloc (Nat.le_refl _) (.cells #[.int .i64 (dv:Nat)] 3)
       have hP:=Lib.hid (hP.out.below hA)
       have t2:=t2.below hA t2.lt
       have bl:=bl.trans (Below.mono hA bl.size)
       have hS:=hS2
       clear hS2 hA
       generalize hbn:V2.heap.size=bhD at *
       clear hbn
       generalize World.alloc V2 _=V3 at *
       try simp only [Act.put,sIt,sIz,sIs]
       refine wpTr.do1 _ rfl (fun K hK=>?_)
       go_simp
       refine (HTRM bhD V3 hD.out).out.mono ?_
       rintro e V4 ⟨rfl,hb⟩
       have hS2:=hS.step hb
       dsimp only
       refine hK.out _ _ hS2 ?_
       clear hK K
       have hP:=Lib.hid (hP.out.below hb)
       have hD:=Lib.hid (hD.out.below hb)
       have t2:=t2.bl hb
       have bl:=bl.upb hb bl.size
       have hS:=hS2
       clear hS2 hb
       try simp only [Act.put,sIt,sIz,sIs]
       refine wpTr.do1 _ rfl (fun K hK=>?_)
       go_simp
       refine (HADD P cp bhD V4 hP.out hCP.out (Lib.hid hD.out).out).out.mono ?_
       rintro e V5 ⟨R,cr,rfl,hcr,hR0,hb⟩
       have hS2:=hS.step hb
       dsimp only
       refine hK.out _ _ hS2 ?_
       clear hK K
       have t2:=t2.bl hb
       have bl:=bl.upb hb bl.size
       have hS:=hS2
       clear hS2 hb
       try simp only [Act.put,sIt,sIz,sIs]
       have hR:=Lib.hid hR0
       clear hR0
       simp only [wpTr,List.drop_succ_cons,List.drop_zero]
       go_wp2_with fail
       refine NoPanic.normal ?_
       go_wp2_with fail
       go_roundw
       case rel=>exact ⟨i+1,R,cr,by omega,by go_num,rfl,hcr,hR,t2,bl⟩
       case measure=>simp [intOf];omega
      focus
       refine wpTr.do1 _ rfl (fun K hK=>?_)
       go_simp
       have hS2:=hS.step ((Below.refl V1.heap.size V1).alloc (Nat.le_refl _) (.cells #[.int .i64 (dv:Nat)] 3))
       refine hK.out _ _ hS2 ?_
       clear hK K
       have hD:=Lib.hid (zaY (Ob.new V1 3 #[.int .i64 (dv:Nat)]))
       have hA:=(Below.refl V1.heap.size V1).alloc (Nat.le_refl _) (.cells #[.int .i64 (dv:Nat)] 3)
       have hr:=Lib.hid (hr.out.below hA)
       have hT:=Lib.hid (hT.out.below hA)
       have t2:=t2.below hA t2.lt
       have bl:=bl.trans (Below.mono hA bl.size)
       have hS:=hS2
       clear hS2 hA
       generalize hbn:V1.heap.size=bhD at *
       clear hbn
       generalize World.alloc V1 _=V6 at *
       try simp only [Act.put,sIt,sIz,sIs]
       refine wpTr.do1 _ rfl (fun K hK=>?_)
       go_simp
       refine (HMUL A c bhT V6 hr.out hT.out).out.mono ?_
       rintro e V7 ⟨P,cp,rfl,hcp,hP0,hb⟩
       have hS2:=hS.step hb
       dsimp only
       refine hK.out _ _ hS2 ?_
       clear hK K
       have hD:=Lib.hid (hD.out.below hb)
       have t2:=t2.bl hb
       have bl:=bl.upb hb bl.size
       have hS:=hS2
       clear hS2 hb
       try simp only [Act.put,sIt,sIz,sIs]
       have hP:=Lib.hid hP0
       have hCP:=Lib.hid hcp
       clear hP0 hcp
       refine wpTr.do1 _ rfl (fun K hK=>?_)
       go_simp
       refine (HTRM bhD V7 hD.out).out.mono ?_
       rintro e V8 ⟨rfl,hb⟩
       have hS2:=hS.step hb
       dsimp only
       refine hK.out _ _ hS2 ?_
       clear hK K
       have hP:=Lib.hid (hP.out.below hb)
       have hD:=Lib.hid (hD.out.below hb)
       have t2:=t2.bl hb
       have bl:=bl.upb hb bl.size
       have hS:=hS2
       clear hS2 hb
       try simp only [Act.put,sIt,sIz,sIs]
       refine wpTr.do1 _ rfl (fun K hK=>?_)
       go_simp
       refine (HADD P cp bhD V8 hP.out hCP.out (Lib.hid hD.out).out).out.mono ?_
       rintro e V9 ⟨R,cr,rfl,hcr,hR0,hb⟩
       have hS2:=hS.step hb
       dsimp only
       refine hK.out _ _ hS2 ?_
       clear hK K
       have t2:=t2.bl hb
       have bl:=bl.upb hb bl.size
       have hS:=hS2
       clear hS2 hb
       try simp only [Act.put,sIt,sIz,sIs]
       have hR:=Lib.hid hR0
       clear hR0
       simp only [wpTr,List.drop_succ_cons,List.drop_zero]
       go_wp2_with fail
       refine NoPanic.normal ?_
       go_wp2_with fail
       go_roundw
       case rel=>exact ⟨i+1,R,cr,by omega,by go_num,rfl,hcr,hR,t2,bl⟩
       case measure=>simp [intOf];omega
     focus
      refine wpTr.do1 _ rfl (fun K hK=>?_)
      go_simp
      have hS2:=hS.step ((Below.refl V0.heap.size V0).alloc (Nat.le_refl _) (.cells #[.int .i64 (dv:Nat)] 3))
      refine hK.out _ _ hS2 ?_
      clear hK K
      have hD:=Lib.hid (zaY (Ob.new V0 3 #[.int .i64 (dv:Nat)]))
      have hA:=(Below.refl V0.heap.size V0).alloc (Nat.le_refl _) (.cells #[.int .i64 (dv:Nat)] 3)
      have hr:=Lib.hid (hr.out.below hA)
      have t2:=t2.below hA t2.lt
      have bl:=bl.trans (Below.mono hA bl.size)
      have hS:=hS2
      clear hS2 hA
      generalize hbn:V0.heap.size=bhD at *
      clear hbn
      generalize World.alloc V0 _=V10 at *
      try simp only [Act.put,sIt,sIz,sIs]
      refine wpTr.do1 _ rfl (fun K hK=>?_)
      go_simp
      have hS2:=hS.step ((Below.refl V10.heap.size V10).alloc (Nat.le_refl _) (.cells #[.int .i64 (10:Nat)] 3))
      refine hK.out _ _ hS2 ?_
      clear hK K
      have hT:=Lib.hid (zaY (Ob.new V10 3 #[.int .i64 (10:Nat)]))
      have hA:=(Below.refl V10.heap.size V10).alloc (Nat.le_refl _) (.cells #[.int .i64 (10:Nat)] 3)
      have hr:=Lib.hid (hr.out.below hA)
      have hD:=Lib.hid (hD.out.below hA)
      have t2:=t2.below hA t2.lt
      have bl:=bl.trans (Below.mono hA bl.size)
      have hS:=hS2
      clear hS2 hA
      generalize hbn:V10.heap.size=bhT at *
      clear hbn
      generalize World.alloc V10 _=V11 at *
      try simp only [Act.put,sIt,sIz,sIs]
      refine wpTr.do1 _ rfl (fun K hK=>?_)
      go_simp
      refine (HMUL A c bhT V11 hr.out hT.out).out.mono ?_
      rintro e V12 ⟨P,cp,rfl,hcp,hP0,hb⟩
      have hS2:=hS.step hb
      dsimp only
      refine hK.out _ _ hS2 ?_
      clear hK K
      have hD:=Lib.hid (hD.out.below hb)
      have t2:=t2.bl hb
      have bl:=bl.upb hb bl.size
      have hS:=hS2
      clear hS2 hb
      try simp only [Act.put,sIt,sIz,sIs]
      have hP:=Lib.hid hP0
      have hCP:=Lib.hid hcp
      clear hP0 hcp
      refine wpTr.do1 _ rfl (fun K hK=>?_)
      go_simp
      refine (HTRM bhD V12 hD.out).out.mono ?_
      rintro e V13 ⟨rfl,hb⟩
      have hS2:=hS.step hb
      dsimp only
      refine hK.out _ _ hS2 ?_
      clear hK K
      have hP:=Lib.hid (hP.out.below hb)
      have hD:=Lib.hid (hD.out.below hb)
      have t2:=t2.bl hb
      have bl:=bl.upb hb bl.size
      have hS:=hS2
      clear hS2 hb
      try simp only [Act.put,sIt,sIz,sIs]
      refine wpTr.do1 _ rfl (fun K hK=>?_)
      go_simp
      refine (HADD P cp bhD V13 hP.out hCP.out (Lib.hid hD.out).out).out.mono ?_
      rintro e V14 ⟨R,cr,rfl,hcr,hR0,hb⟩
      have hS2:=hS.step hb
      dsimp only
      refine hK.out _ _ hS2 ?_
      clear hK K
      have t2:=t2.bl hb
      have bl:=bl.upb hb bl.size
      have hS:=hS2
      clear hS2 hb
      try simp only [Act.put,sIt,sIz,sIs]
      have hR:=Lib.hid hR0
      clear hR0
      simp only [wpTr,List.drop_succ_cons,List.drop_zero]
      go_wp2_with fail
      refine NoPanic.normal ?_
      go_wp2_with fail
      go_roundw
      case rel=>exact ⟨i+1,R,cr,by omega,by go_num,rfl,hcr,hR,t2,bl⟩
      case measure=>simp [intOf];omega
    ·obtain rfl:i=(s).size:=by omega
     have HW:=Lib.hid (zaB A c (numAt s (s).size) false wr hr.out (by omega))
     have hlt:¬ (s.size:Int)<s.size:=by omega
     go_wp2_with fail
     refine (HW.out).mono ?_
     rintro e W1 ⟨rfl,hb⟩
     have t2:=t2.bl hb
     have bl:=bl.upb hb bl.size
     clear hb
     try simp only [ptr,Act.put,sIt,sIz,sIs]
     have fr2:=t2.free
     obtain ⟨z2_0,z2_1⟩:=t2.cells2
     go_wp2_with fail
     clear fr2 z2_0 z2_1
     have t2:=t2.set2 (.bool (sg (sgnd false (numAt s (s).size)))) (.string (mg (sgnd false (numAt s (s).size))))
     have bl:=(zah (zah bl (show w.heap.size≤w.heap.size by omega) 0 (.bool (sg (sgnd false (numAt s (s).size))))) (show w.heap.size≤w.heap.size by omega) 1 (.string (mg (sgnd false (numAt s (s).size)))))
     generalize World.setCell (World.setCell W1 _ _) _ _=W2 at t2 bl ⊢
     obtain ⟨r2_0,r2_1⟩:=t2.cells2
     exact bodyPost_ret (v:=.tuple #[vI (sgnd false (numAt s (s).size)),.int .i64 0]) (by simp [results,Tryz.results202,go_sem,r2_0,r2_1]) rfl (⟨rfl,bl⟩)

theorem zfn (s:ByteArray) (w:World) (h0:s.size=0) (hd:AllD s) :
  Calls Tryz.prog 202 #[.string s] w (RetIE 0 4 w):=by
 have HD:=Lib.hid hd
 clear hd
 obtain ⟨e1,e2⟩:=zbF h0
 go_enter Tryz.func202,Tryz.ntmps202
 go_wp2_with fail
 have t2:=Ob.new (w) 23 #[.bool false,.string ⟨#[]⟩]
 have bl:=((Below.refl w.heap.size w).alloc (Nat.le_refl _) (.cells #[.bool false,.string ⟨#[]⟩] 23))
 try simp only [World.size_alloc] at t2
 generalize World.alloc w _=W1 at t2 bl ⊢
 go_loopw [5] (fun v5 wr=>∃ i:Nat,i≤s.size∧v5 = .int .i64 i∧True∧Ob wr w.heap.size 23 #[.bool false,.string ⟨#[]⟩]∧Below w.heap.size w wr) (fun v5 _=>s.size - (intOf v5).toNat)
 case atStart=>exact ⟨0,by omega,rfl,trivial,t2,bl⟩
 case round =>
  clear t2 bl
  obtain ⟨i,hi,rfl,hI,t2,bl⟩:=hrel
  by_cases hil:i<s.size
  ·exact absurd hil (by omega)
  ·obtain rfl:i=s.size:=by omega
   have fr2:=t2.free
   obtain ⟨z2_0,z2_1⟩:=t2.cells2
   go_wp2_with fail
   clear fr2 z2_0 z2_1
   have t2:=t2.set2 (.bool false) (.string ⟨#[]⟩)
   have bl:=(zah (zah bl (show w.heap.size≤w.heap.size by omega) 0 (.bool false)) (show w.heap.size≤w.heap.size by omega) 1 (.string ⟨#[]⟩))
   generalize World.setCell (World.setCell wr _ _) _ _=W3 at t2 bl ⊢
   obtain ⟨r2_0,r2_1⟩:=t2.cells2
   exact bodyPost_ret (v:=.tuple #[.agg #[.bool false,.string ⟨#[]⟩],.int .i64 4]) (by simp [results,Tryz.results202,go_sem,r2_0,r2_1]) rfl (⟨by rw [zbY],bl⟩)
theorem ze4 (s:ByteArray) (w:World) (h0:0<s.size) (h45:¬ (s[0]'h0).toNat=45) (hd:AllD s) (hz:s.size≤1000000000) (h1:1<s.size) (h48:(s[0]'h0).toNat=48) :
  Calls Tryz.prog 202 #[.string s] w (RetIE 0 4 w):=by
 have HD:=Lib.hid hd
 clear hd
 obtain ⟨e1,e2⟩:=za3 h0
 go_enter Tryz.func202,Tryz.ntmps202
 go_wp2_with fail
 have t2:=Ob.new (w) 23 #[.bool false,.string ⟨#[]⟩]
 have bl:=((Below.refl w.heap.size w).alloc (Nat.le_refl _) (.cells #[.bool false,.string ⟨#[]⟩] 23))
 try simp only [World.size_alloc] at t2
 generalize World.alloc w _=W1 at t2 bl ⊢
 clear h45
 go_loopw [5] (fun v5 wr=>∃ i:Nat,i≤s.size∧v5 = .int .i64 i∧True∧Ob wr w.heap.size 23 #[.bool false,.string ⟨#[]⟩]∧Below w.heap.size w wr) (fun v5 _=>s.size - (intOf v5).toNat)
 case atStart=>exact ⟨0,by omega,rfl,trivial,t2,bl⟩
 case round =>
  clear t2 bl
  obtain ⟨i,hi,rfl,hI,t2,bl⟩:=hrel
  by_cases hil:i<s.size
  ·obtain ⟨c1,c2⟩:=HD.out i hil
   have c1':¬ ((s[i].toNat:Nat):Int)<48:=by omega
   have c2':¬ (57:Int)<((s[i].toNat:Nat):Int):=by omega
   go_wp2_with fail
   go_roundw
   case rel=>exact ⟨i+1,by omega,by go_num,trivial,t2,bl⟩
   case measure=>simp [intOf];omega
  ·obtain rfl:i=s.size:=by omega
   have z1:¬ s.toList = [48]:=by
    rw [ByteArray.toList_eq]
    intro h
    have:=congrArg List.length h
    rw [zdz,List.length_singleton] at this
    omega
   have z2:(s.toList == [48])=false:=by simpa using z1
   have fr2:=t2.free
   obtain ⟨z2_0,z2_1⟩:=t2.cells2
   go_wp2_with fail
   clear fr2 z2_0 z2_1
   have t2:=t2.set2 (.bool false) (.string ⟨#[]⟩)
   have bl:=(zah (zah bl (show w.heap.size≤w.heap.size by omega) 0 (.bool false)) (show w.heap.size≤w.heap.size by omega) 1 (.string ⟨#[]⟩))
   generalize World.setCell (World.setCell wr _ _) _ _=W3 at t2 bl ⊢
   obtain ⟨r2_0,r2_1⟩:=t2.cells2
   exact bodyPost_ret (v:=.tuple #[.agg #[.bool false,.string ⟨#[]⟩],.int .i64 4]) (by simp [results,Tryz.results202,go_sem,r2_0,r2_1]) rfl (⟨by rw [zbY],bl⟩)
def cutN (s:ByteArray):Bool:=Lib.hasPrefix s.data.toList [45]
def cutT (s:ByteArray):ByteArray:=⟨(Lib.trimPrefix s.data.toList [45]).toArray⟩
theorem zoe (s:ByteArray) (h0:0<s.size) (h1:s.size≤1) (h48:(s[0]'h0).toNat=48):s=⟨#[48]⟩:=by
 obtain ⟨⟨l⟩⟩:=s
 match l,h0,h1,h48 with
 | [],h0,_,_=>exact absurd h0 (by decide)
 | [c],_,_,h48 =>
  have:c=48:=UInt8.toNat_inj.1 h48
  rw [this]
 | a :: b :: l,_,h1,_=>simp [ByteArray.size] at h1

def numL (l:List UInt8):Nat:=l.foldl (fun n c=>n * 10+(c.toNat - 48)) 0
theorem zec (l:List UInt8) (c:UInt8):numL (l ++ [c])=numL l * 10+(c.toNat - 48):=by
 unfold numL;rw [List.foldl_append];rfl
def DigL (l:List UInt8):Prop:=∀ c ∈ l,48≤c.toNat∧c.toNat≤57
theorem zkA (l:List UInt8):∀ i,i≤l.length→numAt ⟨l.toArray⟩ i=numL (l.take i):=by
 intro i
 induction i with
 | zero=>intro _;rfl
 | succ i ih =>
  intro h
  rw [numAt,ih (by omega),List.take_succ_eq_append_getElem (by omega),zec]
  congr 1
  unfold digAt
  rw [dif_pos (by simp [ByteArray.size];omega)]
  rfl
theorem zhu (l:List UInt8):numAt ⟨l.toArray⟩ (ByteArray.mk l.toArray).size=numL l:=by
 rw [zaq,zkA l _ (Nat.le_refl _),List.take_length]
theorem zgw (l:List UInt8):AllD ⟨l.toArray⟩↔DigL l:=by
 constructor
 ·intro h c hc
  obtain ⟨i,hi,rfl⟩:=List.getElem_of_mem hc
  exact h i (by rw [zaq];exact hi)
 ·intro h i hi
  rw [zaq] at hi
  exact h _ (List.getElem_mem hi)
theorem zlQ (neg:Bool) (l:List UInt8):shapeB neg ⟨l.toArray⟩=true↔l ≠ []∧(l.head?=some 48→l.length=1∧neg=false):=by
 cases l with
 | nil=>simp [shapeB,ByteArray.size]
 | cons c l =>
  unfold shapeB
  rw [dif_pos (by rw [zaq];simp)]
  have e:((ByteArray.mk (c :: l).toArray)[0]'(by rw [zaq];simp)).toNat=c.toNat:=rfl
  rw [e,zaq]
  have e2:c=48↔c.toNat=48:=⟨fun h=>by rw [h];rfl,fun h=>UInt8.toNat_inj.1 h⟩
  by_cases hc:c.toNat=48
  ·have hc':=e2.2 hc
   cases neg <;> cases l <;> simp [hc,hc']
  ·have hc':¬ c=48:=fun h=>hc (e2.1 h)
   simp [hc,hc']
theorem zcY {r:Nat} (h:r<10):(UInt8.ofNat (48+r)).toNat=48+r:=by
 rw [UInt8.toNat_ofNat'];omega
theorem zjI:∀ n:Nat,numL (Lib.decDigits n)=n∧DigL (Lib.decDigits n)∧(1≤n→(Lib.decDigits n).head?≠some 48):=by
 intro n
 induction n using Nat.strongRecOn with
 | ind n ih =>
  by_cases h:10≤n
  ·obtain ⟨h1,h2,h3⟩:=ih (n / 10) (by omega)
   have hr:n % 10<10:=by omega
   rw [zfw h]
   refine ⟨?_,?_,fun _=>?_⟩
   ·rw [zec,h1,zcY hr];omega
   ·intro c hc
    rw [List.mem_append,List.mem_singleton] at hc
    rcases hc with hc | rfl
    ·exact h2 c hc
    ·rw [zcY hr];omega
   ·have h4:=h3 (by omega)
    have h5:=zgn (n / 10)
    cases hl:Lib.decDigits (n / 10) with
    | nil=>rw [hl] at h5;simp at h5
    | cons a b=>rw [hl] at h4;exact h4
  ·have hr:n<10:=by omega
   rw [Lib.decDigits_one hr]
   refine ⟨?_,?_,fun h1=>?_⟩
   ·have:=zec [] (UInt8.ofNat (48+n))
    rw [List.nil_append] at this
    rw [this,zcY hr]
    simp [numL]
   ·intro c hc
    rw [List.mem_singleton] at hc
    rw [hc,zcY hr];omega
   ·intro e
    have e':UInt8.ofNat (48+n)=48:=by simpa using e
    have:=congrArg UInt8.toNat e'
    rw [zcY hr] at this
    have h48:(48:UInt8).toNat=48:=rfl
    omega
end Go.Proofs.YtegnalgjjmpcmaaGreatDoor
