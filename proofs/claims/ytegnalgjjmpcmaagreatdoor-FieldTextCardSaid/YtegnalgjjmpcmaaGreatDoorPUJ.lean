import Derived.Test.YtegnalgjjmpcmaaGreatDoorPUB
import Derived.Test.YtegnalgjjmpcmaaGreatDoorPUI
import Derived.Test.YtegnalgjjmpcmaaGreatDoorPUC
set_option linter.unusedVariables false
set_option linter.unusedSimpArgs false
set_option maxRecDepth 100000
set_option maxHeartbeats 8000000
namespace Go.Proofs.YtegnalgjjmpcmaaGreatDoor
open Go.RowKit
def digAt (t:ByteArray) (i:Nat):Nat:=if h:i<t.size then t[i].toNat - 48 else 0
def numAt (t:ByteArray):Nat→Nat
 | 0=>0
 | i+1=>numAt t i * 10+digAt t i
theorem zeI (t:ByteArray) (i:Nat) (h:∀ j,j<i→digAt t j≤9):numAt t i<10 ^ i:=by
 induction i with
 | zero=>exact (by decide:0<10 ^ 0)
 | succ i ih =>
  have h1:=ih (fun j hj=>h j (by omega))
  have h2:=h i (by omega)
  rw [Nat.pow_succ]
  unfold numAt
  omega
theorem zdP (M:Nat) (hM:10≤M) (t:ByteArray) (i:Nat) (h:∀ j,j<i→digAt t j≤9):(digs M (numAt t i)).length≤i :=
 zal (by omega) (Nat.lt_of_lt_of_le (zeI t i h) (Nat.pow_le_pow_left hM i))
theorem ziZ {M:Nat} (hM:11≤M):digs M 10 = [10]:=zdO (by omega) (by decide) (by omega)
theorem zdL {M d:Nat} (hM:10≤M) (hd:d≤9):trimL [d]=digs M d:=by
 by_cases h:d=0
 ·subst h;rw [zak];rfl
 ·rw [zdO (by omega) h (by omega)]
  exact zdt [] d h
theorem zaY {w:World} {k:IntKind} {t:TypeId} {b d:Nat} (h:Ob w b t #[.int k (d:Nat)]):RdAt w k (some ⟨b,0,none⟩) [d]:=fun i hi=>by
 have:i=0:=by simpa using hi
 subst this
 exact ⟨b,0,rfl,h.cells1⟩
def shapeB (neg:Bool) (t:ByteArray):Bool:=if h:0<t.size then !(decide (t[0].toNat=48) && (decide (1<t.size) || neg)) else false
theorem zmq (s t:ByteArray) (neg:Bool) (w:World) (h:shapeB neg t=false)
  (HC:∀ W,Calls Tryz.prog 140 #[.string s,.string ⟨#[45]⟩] W (fun e w'=>e = .returned (.tuple #[.string t,.bool neg])∧Below W.heap.size W w')) :
  Calls Tryz.prog 201 #[.string s] w (RetIE 0 4 w):=by
 replace HC:=fun W=>Lib.hid (HC W)
 unfold shapeB at h
 by_cases h0:0<t.size
 ·obtain ⟨e1,e2⟩:=za3 h0
  rw [dif_pos h0] at h
  simp only [Bool.not_eq_false',Bool.and_eq_true,decide_eq_true_eq,Bool.or_eq_true] at h
  obtain ⟨h48,h1⟩:=h
  by_cases hs:1<t.size
  ·have hs':(1:Int)<t.size:=by omega
   clear h1
   go_enter Tryz.func201,Tryz.ntmps201
   go_wp2_with fail
   have t2:=Ob.new (w) 23 #[.bool false,.string ⟨#[]⟩]
   have bl:=((Below.refl w.heap.size w).alloc (Nat.le_refl _) (.cells #[.bool false,.string ⟨#[]⟩] 23))
   try simp only [World.size_alloc] at t2
   generalize World.alloc w _=W1 at t2 bl ⊢
   refine ((HC W1).out).mono ?_
   rintro e W2 ⟨rfl,hb⟩
   have t2:=t2.bl hb
   have bl:=bl.upb hb bl.size
   clear hb
   try simp only [ptr,Act.put,sIt,sIz,sIs]
   have fr2:=t2.free
   obtain ⟨z2_0,z2_1⟩:=t2.cells2
   go_wp2_with fail
   clear fr2 z2_0 z2_1
   have t2:=t2.set2 (.bool false) (.string ⟨#[]⟩)
   have bl:=(zah (zah bl (show w.heap.size≤w.heap.size by omega) 0 (.bool false)) (show w.heap.size≤w.heap.size by omega) 1 (.string ⟨#[]⟩))
   generalize World.setCell (World.setCell W2 _ _) _ _=W3 at t2 bl ⊢
   obtain ⟨r2_0,r2_1⟩:=t2.cells2
   exact bodyPost_ret (v:=.tuple #[.agg #[.bool false,.string ⟨#[]⟩],.int .i64 4]) (by simp [results,Tryz.results201,go_sem,r2_0,r2_1]) rfl (⟨by rw [zbY],bl⟩)
  ·have hs':¬ (1:Int)<t.size:=by omega
   obtain rfl:neg=true:=by
    rcases h1 with h | h
    ·exact absurd h hs
    ·exact h
   go_enter Tryz.func201,Tryz.ntmps201
   go_wp2_with fail
   have t2:=Ob.new (w) 23 #[.bool false,.string ⟨#[]⟩]
   have bl:=((Below.refl w.heap.size w).alloc (Nat.le_refl _) (.cells #[.bool false,.string ⟨#[]⟩] 23))
   try simp only [World.size_alloc] at t2
   generalize World.alloc w _=W1 at t2 bl ⊢
   refine ((HC W1).out).mono ?_
   rintro e W2 ⟨rfl,hb⟩
   have t2:=t2.bl hb
   have bl:=bl.upb hb bl.size
   clear hb
   try simp only [ptr,Act.put,sIt,sIz,sIs]
   have fr2:=t2.free
   obtain ⟨z2_0,z2_1⟩:=t2.cells2
   go_wp2_with fail
   clear fr2 z2_0 z2_1
   have t2:=t2.set2 (.bool false) (.string ⟨#[]⟩)
   have bl:=(zah (zah bl (show w.heap.size≤w.heap.size by omega) 0 (.bool false)) (show w.heap.size≤w.heap.size by omega) 1 (.string ⟨#[]⟩))
   generalize World.setCell (World.setCell W2 _ _) _ _=W3 at t2 bl ⊢
   obtain ⟨r2_0,r2_1⟩:=t2.cells2
   exact bodyPost_ret (v:=.tuple #[.agg #[.bool false,.string ⟨#[]⟩],.int .i64 4]) (by simp [results,Tryz.results201,go_sem,r2_0,r2_1]) rfl (⟨by rw [zbY],bl⟩)
 ·obtain ⟨e1,e2⟩:=zbF (s:=t) (by omega)
  go_enter Tryz.func201,Tryz.ntmps201
  go_wp2_with fail
  have t2:=Ob.new (w) 23 #[.bool false,.string ⟨#[]⟩]
  have bl:=((Below.refl w.heap.size w).alloc (Nat.le_refl _) (.cells #[.bool false,.string ⟨#[]⟩] 23))
  try simp only [World.size_alloc] at t2
  generalize World.alloc w _=W1 at t2 bl ⊢
  refine ((HC W1).out).mono ?_
  rintro e W2 ⟨rfl,hb⟩
  have t2:=t2.bl hb
  have bl:=bl.upb hb bl.size
  clear hb
  try simp only [ptr,Act.put,sIt,sIz,sIs]
  have fr2:=t2.free
  obtain ⟨z2_0,z2_1⟩:=t2.cells2
  go_wp2_with fail
  clear fr2 z2_0 z2_1
  have t2:=t2.set2 (.bool false) (.string ⟨#[]⟩)
  have bl:=(zah (zah bl (show w.heap.size≤w.heap.size by omega) 0 (.bool false)) (show w.heap.size≤w.heap.size by omega) 1 (.string ⟨#[]⟩))
  generalize World.setCell (World.setCell W2 _ _) _ _=W3 at t2 bl ⊢
  obtain ⟨r2_0,r2_1⟩:=t2.cells2
  exact bodyPost_ret (v:=.tuple #[.agg #[.bool false,.string ⟨#[]⟩],.int .i64 4]) (by simp [results,Tryz.results201,go_sem,r2_0,r2_1]) rfl (⟨by rw [zbY],bl⟩)
def AllD (t:ByteArray):Prop:=∀ i (h:i<t.size),48≤t[i].toNat∧t[i].toNat≤57
theorem AllD.dig {t:ByteArray} (h:AllD t) (j:Nat):digAt t j≤9:=by
 unfold digAt
 by_cases hj:j<t.size
 ·rw [dif_pos hj];have:=h j hj;omega
 ·rw [dif_neg hj];omega
theorem zrG (t:ByteArray) (i:Nat) (hi:i≤400) (hd:∀ j,j<i→digAt t j≤9):(digs 4294967296 (numAt t i * 10)).length≤401:=by
 have h:=zal (B:=4294967296) (k:=i+1) (n:=numAt t i * 10) (by decide) (Nat.lt_of_lt_of_le (by
  have h1:=zeI t i hd
  rw [Nat.pow_succ]
  omega) (Nat.pow_le_pow_left (show 10≤4294967296 by decide) (i+1)))
 omega
theorem zrP (A:Option Addr) (c b n:Nat) (W:World) (h1:RdAt W .u32 A (digs 4294967296 n)) (h2:RdAt W .u32 (some ⟨b,0,none⟩) [10]) (hl:(digs 4294967296 n).length≤400) :
  Calls Tryz.prog 157 #[.slice A (digs 4294967296 n).length c,.slice (some ⟨b,0,none⟩) 1 1] W (RetD .u32 4294967296 (n * 10) W):=by
 have e:=ziZ (M:=4294967296) (by decide)
 have h:=zmM A (some ⟨b,0,none⟩) c 1 n 10 W h1 (by rw [e];exact h2) (by omega) (by rw [e];decide)
 rw [e] at h
 exact h
theorem zpA (b dv:Nat) (W:World) (hd9:dv≤9) (h1:RdAt W .u32 (some ⟨b,0,none⟩) [dv]) :
  Calls Tryz.prog 181 #[.slice (some ⟨b,0,none⟩) 1 1] W (fun e w'=>e = .returned (.slice (some ⟨b,0,none⟩) (digs 4294967296 dv).length 1)∧Below W.heap.size W w') :=
 (zbt (some ⟨b,0,none⟩) 1 1 [dv] W (Lib.hid rfl) (Lib.hid h1) (by omega) (by omega)).mono (by
  rintro e w' ⟨rfl,rfl⟩
  exact ⟨by rw [zdL (M:=4294967296) (by decide) hd9],Below.refl _ _⟩)
theorem zrV (P:Option Addr) (cp b p dv r:Nat) (W:World) (hd9:dv≤9) (h1:RdAt W .u32 P (digs 4294967296 p)) (h2:(digs 4294967296 p).length≤cp) (h3:RdAt W .u32 (some ⟨b,0,none⟩) [dv]) (hl:(digs 4294967296 p).length≤401) (hr:r=p+dv) :
  Calls Tryz.prog 153 #[.slice P (digs 4294967296 p).length cp,.slice (some ⟨b,0,none⟩) (digs 4294967296 dv).length 1] W (RetD .u32 4294967296 r W):=by
 have hl1:(digs 4294967296 dv).length≤1:=zal (by decide) (by omega)
 have h:=zlD P (some ⟨b,0,none⟩) cp 1 p dv W h1 (by rw [← zdL (M:=4294967296) (by decide) hd9];exact h3.trimL) (by omega) (by omega) h2 hl1
 rw [hr]
 exact h
theorem wrb8 {x:Int} (h:0≤x) (h':x≤255):IntKind.u8.wrap x=x:=by
 have e:IntKind.u8.wrap x=x % 256:=by simp [IntKind.wrap,IntKind.bits,IntKind.signed]
 rw [e];omega
theorem wru32 {x:Int} (h:0≤x) (h':x≤4294967295):IntKind.u32.wrap x=x:=by
 have e:IntKind.u32.wrap x=x % 4294967296:=by simp [IntKind.wrap,IntKind.bits,IntKind.signed]
 rw [e];omega
theorem znv (s t:ByteArray) (neg:Bool) (w:World) (h0:0<t.size) (h48:¬ (t[0]'h0).toNat=48) (hd:AllD t) (hl:t.size≤400)
  (HC:∀ W,Calls Tryz.prog 140 #[.string s,.string ⟨#[45]⟩] W (fun e w'=>e = .returned (.tuple #[.string t,.bool neg])∧Below W.heap.size W w')) :
  Calls Tryz.prog 201 #[.string s] w (RetIE (sgnd neg (numAt t t.size)) 0 w):=by
 replace HC:=fun W=>Lib.hid (HC W)
 have HD:=Lib.hid hd
 clear hd
 have hl':¬ (400:Int)<t.size:=by omega
 obtain ⟨e1,e2⟩:=za3 h0
 skip
 go_enter Tryz.func201,Tryz.ntmps201
 go_wp2_with fail
 have t2:=Ob.new (w) 23 #[.bool false,.string ⟨#[]⟩]
 have bl:=((Below.refl w.heap.size w).alloc (Nat.le_refl _) (.cells #[.bool false,.string ⟨#[]⟩] 23))
 try simp only [World.size_alloc] at t2
 generalize World.alloc w _=W1 at t2 bl ⊢
 refine ((HC W1).out).mono ?_
 rintro e W2 ⟨rfl,hb⟩
 have t2:=t2.bl hb
 have bl:=bl.upb hb bl.size
 clear hb
 go_wp2_with fail
 clear HC h48
 go_loopw [32] (fun v32 wr=>∃ i:Nat,i≤t.size∧v32 = .int .i64 i∧Ob wr w.heap.size 23 #[.bool false,.string ⟨#[]⟩]∧Below w.heap.size w wr) (fun v32 _=>t.size - (intOf v32).toNat)
 case atStart=>exact ⟨0,by omega,rfl,t2,bl⟩
 case round =>
  clear t2 bl
  obtain ⟨i,hi,rfl,t2,bl⟩:=hrel
  by_cases hil:i<t.size
  ·obtain ⟨c1,c2⟩:=HD.out i hil
   have c1':¬ ((t[i].toNat:Nat):Int)<48:=by omega
   have c2':¬ (57:Int)<((t[i].toNat:Nat):Int):=by omega
   go_wp2_with fail
   go_roundw
   case rel=>exact ⟨i+1,by omega,by go_num,t2,bl⟩
   case measure=>simp [intOf];omega
  ·obtain rfl:i=t.size:=by omega
   go_wp2_with fail
   go_loopw [7,53] (fun v7 v53 wr=>∃ (i:Nat) (A:Option Addr) (c:Nat),i≤t.size∧v53 = .int .i64 i∧v7 = .slice A (digs 4294967296 (numAt t i)).length c∧(digs 4294967296 (numAt t i)).length≤c∧Hid (RdAt wr .u32 A (digs 4294967296 (numAt t i)))∧Ob wr w.heap.size 23 #[.bool false,.string ⟨#[]⟩]∧Below w.heap.size w wr) (fun _ v53 _=>t.size - (intOf v53).toNat)
   case atStart=>exact ⟨0,none,0,by omega,rfl,by rw [numAt,zak];rfl,by rw [numAt,zak];exact Nat.le_refl _,Lib.hid (by rw [numAt,zak];exact RdAt.nil _ _ _),t2,bl⟩
   case round =>
    clear t2 bl
    obtain ⟨i,A,c,hi,rfl,rfl,hc,hr,t2,bl⟩:=hrel
    have hlen:(digs 4294967296 (numAt t i)).length≤400:=Nat.le_trans (zdP _ (by decide) t i (fun j _=>HD.out.dig j)) (by omega)
    by_cases hil:i<t.size
    ·obtain ⟨c1,c2⟩:=HD.out i hil
     obtain ⟨dv,hdv⟩:∃ d,d=digAt t i:=⟨_,rfl⟩
     have hdt:digAt t i=t[i].toNat - 48:=by unfold digAt;rw [dif_pos hil]
     have hd9:dv≤9:=by omega
     have hlen2:=zrG t i (by omega) (fun j _=>HD.out.dig j)
     have HMUL:=fun (A:Option Addr) c b W h1 h2=>Lib.hid (zrP A c b (numAt t i) W h1 h2 hlen)
     have HTRM:=fun b W h1=>Lib.hid (zpA b dv W hd9 h1)
     have HADD:=fun (P:Option Addr) cp b W h1 h2 h3=>Lib.hid (zrV P cp b (numAt t i * 10) dv (numAt t (i+1)) W hd9 h1 h2 h3 hlen2 (by rw [hdv];rfl))
     have q1:IntKind.u8.wrap (((t[i].toNat:Nat):Int) - 48)=(dv:Int):=by rw [show ((t[i].toNat:Nat):Int) - 48=(dv:Int) from by omega];exact wrb8 (by omega) (by omega)
     have q2:IntKind.u32.wrap (dv:Int)=(dv:Int):=wru32 (by omega) (by omega)
     have i1:(0:Int)≤(i:Int):=by omega
     have i2:(i:Int)<t.size:=by omega
     have HDV:=Lib.hid hdv
     clear hdv hdt
     go_wp2_with fail
     refine zdN (CB wr) 11 (.look 0 (.look 3 (.look 4 (.look 5 (.look 6 (.look 7 (.two 1 8 (.two 2 8 (.one 8 (.one 9 (.one 10 .nil))) (.one 2 (.one 9 (.one 10 .nil)))) (.one 1 (.one 2 (.one 9 (.one 10 .nil))))))))))) (by kernel_rfl) (by kernel_rfl) (CB.drew0 wr) ?_
     refine wpTr.eye _ (.slice A (digs 4294967296 (numAt t i)).length c) rfl (by kernel_rfl) (by intro w' hC;go_simp) ?_
     try simp only [Act.put,sIt,sIz,sIs]
     refine wpTr.eye _ (.string t) rfl (by kernel_rfl) (by intro w' hC;go_simp) ?_
     try simp only [Act.put,sIt,sIz,sIs]
     refine wpTr.eye _ (.int .i64 i) rfl (by kernel_rfl) (by intro w' hC;go_simp) ?_
     try simp only [Act.put,sIt,sIz,sIs]
     refine wpTr.eye _ (.int .u8 ((t[i]'hil).toNat:Nat)) rfl (by kernel_rfl) (by intro w' hC;go_simp) ?_
     try simp only [Act.put,sIt,sIz,sIs]
     refine wpTr.eye _ (.int .u8 (dv:Nat)) rfl (by kernel_rfl) (by intro w' hC;go_simp) ?_
     try simp only [Act.put,sIt,sIz,sIs]
     refine wpTr.eye _ (.int .u32 (dv:Nat)) rfl (by kernel_rfl) (by intro w' hC;go_simp) ?_
     try simp only [Act.put,sIt,sIz,sIs]
     clear q1 q2 i1 i2
     have hS:=CB.drew0 wr
     have hr:=Lib.hid (hr.out.below ((Below.refl wr.heap.size wr).drew))
     have t2:=t2.below ((Below.refl wr.heap.size wr).drew) t2.lt
     have bl:=bl.trans (Below.mono ((Below.refl wr.heap.size wr).drew) bl.size)
     generalize World.drew wr=V0 at hS hr t2 bl ⊢
     refine wpTr.do2 ?_ ?_
     focus
      refine wpTr.do1 _ rfl (fun K hK=>?_)
      go_simp
      have hS2:=hS.step ((Below.refl V0.heap.size V0).alloc (Nat.le_refl _) (.cells #[.int .u32 (10:Nat)] 144))
      refine hK.out _ _ hS2 ?_
      clear hK K
      have hT:=Lib.hid (zaY (Ob.new V0 144 #[.int .u32 (10:Nat)]))
      have hA:=(Below.refl V0.heap.size V0).alloc (Nat.le_refl _) (.cells #[.int .u32 (10:Nat)] 144)
      have hr:=Lib.hid (hr.out.below hA)
      have t2:=t2.below hA t2.lt
      have bl:=bl.trans (Below.mono hA bl.size)
      have hS:=hS2
      clear hS2 hA
      generalize hbn:V0.heap.size=bhT at *
      clear hbn
      generalize World.alloc V0 _=V1 at *
      try simp only [Act.put,sIt,sIz,sIs]
      refine wpTr.do2 ?_ ?_
      focus
       refine wpTr.do1 _ rfl (fun K hK=>?_)
       go_simp
       refine (HMUL A c bhT V1 hr.out hT.out).out.mono ?_
       rintro e V2 ⟨P,cp,rfl,hcp,hP0,hb⟩
       have hS2:=hS.step hb
       dsimp only
       refine hK.out _ _ hS2 ?_
       clear hK K
       have t2:=t2.bl hb
       have bl:=bl.upb hb bl.size
       have hS:=hS2
       clear hS2 hb
       try simp only [Act.put,sIt,sIz,sIs]
       have hP:=Lib.hid hP0
       have hCP:=Lib.hid hcp
       clear hP0 hcp
       refine wpTr.do1 _ rfl (fun K hK=>?_)
       go_simp
       have hS2:=hS.step ((Below.refl V2.heap.size V2).alloc (Nat.le_refl _) (.cells #[.int .u32 (dv:Nat)] 144))
       refine hK.out _ _ hS2 ?_
       clear hK K
       have hD:=Lib.hid (zaY (Ob.new V2 144 #[.int .u32 (dv:Nat)]))
       have hA:=(Below.refl V2.heap.size V2).alloc (Nat.le_refl _) (.cells #[.int .u32 (dv:Nat)] 144)
       have hP:=Lib.hid (hP.out.below hA)
       have t2:=t2.below hA t2.lt
       have bl:=bl.trans (Below.mono hA bl.size)
       have hS:=hS2
       clear hS2 hA
       generalize hbn:V2.heap.size=bhD at *
       clear hbn
       generalize World.alloc V2 _=V3 at *
       try simp only [Act.put,sIt,sIz,sIs]
       refine wpTr.do1 _ rfl (fun K hK=>?_)
       go_simp
       refine (HTRM bhD V3 hD.out).out.mono ?_
       rintro e V4 ⟨rfl,hb⟩
       have hS2:=hS.step hb
       dsimp only
       refine hK.out _ _ hS2 ?_
       clear hK K
       have hP:=Lib.hid (hP.out.below hb)
       have hD:=Lib.hid (hD.out.below hb)
       have t2:=t2.bl hb
       have bl:=bl.upb hb bl.size
       have hS:=hS2
       clear hS2 hb
       try simp only [Act.put,sIt,sIz,sIs]
       refine wpTr.do1 _ rfl (fun K hK=>?_)
       go_simp
       refine (HADD P cp bhD V4 hP.out hCP.out (Lib.hid hD.out).out).out.mono ?_
       rintro e V5 ⟨R,cr,rfl,hcr,hR0,hb⟩
       have hS2:=hS.step hb
       dsimp only
       refine hK.out _ _ hS2 ?_
       clear hK K
       have t2:=t2.bl hb
       have bl:=bl.upb hb bl.size
       have hS:=hS2
       clear hS2 hb
       try simp only [Act.put,sIt,sIz,sIs]
       have hR:=Lib.hid hR0
       clear hR0
       simp only [wpTr,List.drop_succ_cons,List.drop_zero]
       go_wp2_with fail
       refine NoPanic.normal ?_
       go_wp2_with fail
       go_roundw
       case rel=>exact ⟨i+1,R,cr,by omega,by go_num,rfl,hcr,hR,t2,bl⟩
       case measure=>simp [intOf];omega
      focus
       refine wpTr.do1 _ rfl (fun K hK=>?_)
       go_simp
       have hS2:=hS.step ((Below.refl V1.heap.size V1).alloc (Nat.le_refl _) (.cells #[.int .u32 (dv:Nat)] 144))
       refine hK.out _ _ hS2 ?_
       clear hK K
       have hD:=Lib.hid (zaY (Ob.new V1 144 #[.int .u32 (dv:Nat)]))
       have hA:=(Below.refl V1.heap.size V1).alloc (Nat.le_refl _) (.cells #[.int .u32 (dv:Nat)] 144)
       have hr:=Lib.hid (hr.out.below hA)
       have hT:=Lib.hid (hT.out.below hA)
       have t2:=t2.below hA t2.lt
       have bl:=bl.trans (Below.mono hA bl.size)
       have hS:=hS2
       clear hS2 hA
       generalize hbn:V1.heap.size=bhD at *
       clear hbn
       generalize World.alloc V1 _=V6 at *
       try simp only [Act.put,sIt,sIz,sIs]
       refine wpTr.do1 _ rfl (fun K hK=>?_)
       go_simp
       refine (HMUL A c bhT V6 hr.out hT.out).out.mono ?_
       rintro e V7 ⟨P,cp,rfl,hcp,hP0,hb⟩
       have hS2:=hS.step hb
       dsimp only
       refine hK.out _ _ hS2 ?_
       clear hK K
       have hD:=Lib.hid (hD.out.below hb)
       have t2:=t2.bl hb
       have bl:=bl.upb hb bl.size
       have hS:=hS2
       clear hS2 hb
       try simp only [Act.put,sIt,sIz,sIs]
       have hP:=Lib.hid hP0
       have hCP:=Lib.hid hcp
       clear hP0 hcp
       refine wpTr.do1 _ rfl (fun K hK=>?_)
       go_simp
       refine (HTRM bhD V7 hD.out).out.mono ?_
       rintro e V8 ⟨rfl,hb⟩
       have hS2:=hS.step hb
       dsimp only
       refine hK.out _ _ hS2 ?_
       clear hK K
       have hP:=Lib.hid (hP.out.below hb)
       have hD:=Lib.hid (hD.out.below hb)
       have t2:=t2.bl hb
       have bl:=bl.upb hb bl.size
       have hS:=hS2
       clear hS2 hb
       try simp only [Act.put,sIt,sIz,sIs]
       refine wpTr.do1 _ rfl (fun K hK=>?_)
       go_simp
       refine (HADD P cp bhD V8 hP.out hCP.out (Lib.hid hD.out).out).out.mono ?_
       rintro e V9 ⟨R,cr,rfl,hcr,hR0,hb⟩
       have hS2:=hS.step hb
       dsimp only
       refine hK.out _ _ hS2 ?_
       clear hK K
       have t2:=t2.bl hb
       have bl:=bl.upb hb bl.size
       have hS:=hS2
       clear hS2 hb
       try simp only [Act.put,sIt,sIz,sIs]
       have hR:=Lib.hid hR0
       clear hR0
       simp only [wpTr,List.drop_succ_cons,List.drop_zero]
       go_wp2_with fail
       refine NoPanic.normal ?_
       go_wp2_with fail
       go_roundw
       case rel=>exact ⟨i+1,R,cr,by omega,by go_num,rfl,hcr,hR,t2,bl⟩
       case measure=>simp [intOf];omega
     focus
      refine wpTr.do1 _ rfl (fun K hK=>?_)
      go_simp
      have hS2:=hS.step ((Below.refl V0.heap.size V0).alloc (Nat.le_refl _) (.cells #[.int .u32 (dv:Nat)] 144))
      refine hK.out _ _ hS2 ?_
      clear hK K
      have hD:=Lib.hid (zaY (Ob.new V0 144 #[.int .u32 (dv:Nat)]))
      have hA:=(Below.refl V0.heap.size V0).alloc (Nat.le_refl _) (.cells #[.int .u32 (dv:Nat)] 144)
      have hr:=Lib.hid (hr.out.below hA)
      have t2:=t2.below hA t2.lt
      have bl:=bl.trans (Below.mono hA bl.size)
      have hS:=hS2
      clear hS2 hA
      generalize hbn:V0.heap.size=bhD at *
      clear hbn
      generalize World.alloc V0 _=V10 at *
      try simp only [Act.put,sIt,sIz,sIs]
      refine wpTr.do1 _ rfl (fun K hK=>?_)
      go_simp
      have hS2:=hS.step ((Below.refl V10.heap.size V10).alloc (Nat.le_refl _) (.cells #[.int .u32 (10:Nat)] 144))
      refine hK.out _ _ hS2 ?_
      clear hK K
      have hT:=Lib.hid (zaY (Ob.new V10 144 #[.int .u32 (10:Nat)]))
      have hA:=(Below.refl V10.heap.size V10).alloc (Nat.le_refl _) (.cells #[.int .u32 (10:Nat)] 144)
      have hr:=Lib.hid (hr.out.below hA)
      have hD:=Lib.hid (hD.out.below hA)
      have t2:=t2.below hA t2.lt
      have bl:=bl.trans (Below.mono hA bl.size)
      have hS:=hS2
      clear hS2 hA
      generalize hbn:V10.heap.size=bhT at *
      clear hbn
      generalize World.alloc V10 _=V11 at *
      try simp only [Act.put,sIt,sIz,sIs]
      refine wpTr.do1 _ rfl (fun K hK=>?_)
      go_simp
      refine (HMUL A c bhT V11 hr.out hT.out).out.mono ?_
      rintro e V12 ⟨P,cp,rfl,hcp,hP0,hb⟩
      have hS2:=hS.step hb
      dsimp only
      refine hK.out _ _ hS2 ?_
      clear hK K
      have hD:=Lib.hid (hD.out.below hb)
      have t2:=t2.bl hb
      have bl:=bl.upb hb bl.size
      have hS:=hS2
      clear hS2 hb
      try simp only [Act.put,sIt,sIz,sIs]
      have hP:=Lib.hid hP0
      have hCP:=Lib.hid hcp
      clear hP0 hcp
      refine wpTr.do1 _ rfl (fun K hK=>?_)
      go_simp
      refine (HTRM bhD V12 hD.out).out.mono ?_
      rintro e V13 ⟨rfl,hb⟩
      have hS2:=hS.step hb
      dsimp only
      refine hK.out _ _ hS2 ?_
      clear hK K
      have hP:=Lib.hid (hP.out.below hb)
      have hD:=Lib.hid (hD.out.below hb)
      have t2:=t2.bl hb
      have bl:=bl.upb hb bl.size
      have hS:=hS2
      clear hS2 hb
      try simp only [Act.put,sIt,sIz,sIs]
      refine wpTr.do1 _ rfl (fun K hK=>?_)
      go_simp
      refine (HADD P cp bhD V13 hP.out hCP.out (Lib.hid hD.out).out).out.mono ?_
      rintro e V14 ⟨R,cr,rfl,hcr,hR0,hb⟩
      have hS2:=hS.step hb
      dsimp only
      refine hK.out _ _ hS2 ?_
      clear hK K
      have t2:=t2.bl hb
      have bl:=bl.upb hb bl.size
      have hS:=hS2
      clear hS2 hb
      try simp only [Act.put,sIt,sIz,sIs]
      have hR:=Lib.hid hR0
      clear hR0
      simp only [wpTr,List.drop_succ_cons,List.drop_zero]
      go_wp2_with fail
      refine NoPanic.normal ?_
      go_wp2_with fail
      go_roundw
      case rel=>exact ⟨i+1,R,cr,by omega,by go_num,rfl,hcr,hR,t2,bl⟩
      case measure=>simp [intOf];omega
    ·obtain rfl:i=t.size:=by omega
     have HW:=Lib.hid (zbs A c (numAt t t.size) neg wr hr.out (by omega))
     go_wp2_with fail
     refine (HW.out).mono ?_
     rintro e W1 ⟨rfl,hb⟩
     have t2:=t2.bl hb
     have bl:=bl.upb hb bl.size
     clear hb
     try simp only [ptr,Act.put,sIt,sIz,sIs]
     have fr2:=t2.free
     obtain ⟨z2_0,z2_1⟩:=t2.cells2
     go_wp2_with fail
     clear fr2 z2_0 z2_1
     have t2:=t2.set2 (.bool (sg (sgnd neg (numAt t t.size)))) (.string (mg (sgnd neg (numAt t t.size))))
     have bl:=(zah (zah bl (show w.heap.size≤w.heap.size by omega) 0 (.bool (sg (sgnd neg (numAt t t.size))))) (show w.heap.size≤w.heap.size by omega) 1 (.string (mg (sgnd neg (numAt t t.size)))))
     generalize World.setCell (World.setCell W1 _ _) _ _=W2 at t2 bl ⊢
     obtain ⟨r2_0,r2_1⟩:=t2.cells2
     exact bodyPost_ret (v:=.tuple #[vI (sgnd neg (numAt t t.size)),.int .i64 0]) (by simp [results,Tryz.results201,go_sem,r2_0,r2_1]) rfl (⟨rfl,bl⟩)
theorem zmm (s t:ByteArray) (neg:Bool) (w:World) (h0:0<t.size) (h48:(t[0]'h0).toNat=48) (h1:¬ 1<t.size) (hd:AllD t) (hl:t.size≤400)
  (HC:∀ W,Calls Tryz.prog 140 #[.string s,.string ⟨#[45]⟩] W (fun e w'=>e = .returned (.tuple #[.string t,.bool false])∧Below W.heap.size W w')) :
  Calls Tryz.prog 201 #[.string s] w (RetIE (sgnd false (numAt t t.size)) 0 w):=by
 replace HC:=fun W=>Lib.hid (HC W)
 have HD:=Lib.hid hd
 clear hd
 have hl':¬ (400:Int)<t.size:=by omega
 obtain ⟨e1,e2⟩:=za3 h0
 have hs':¬ (1:Int)<t.size:=by omega
 go_enter Tryz.func201,Tryz.ntmps201
 go_wp2_with fail
 have t2:=Ob.new (w) 23 #[.bool false,.string ⟨#[]⟩]
 have bl:=((Below.refl w.heap.size w).alloc (Nat.le_refl _) (.cells #[.bool false,.string ⟨#[]⟩] 23))
 try simp only [World.size_alloc] at t2
 generalize World.alloc w _=W1 at t2 bl ⊢
 refine ((HC W1).out).mono ?_
 rintro e W2 ⟨rfl,hb⟩
 have t2:=t2.bl hb
 have bl:=bl.upb hb bl.size
 clear hb
 go_wp2_with fail
 clear HC h48
 go_loopw [32] (fun v32 wr=>∃ i:Nat,i≤t.size∧v32 = .int .i64 i∧Ob wr w.heap.size 23 #[.bool false,.string ⟨#[]⟩]∧Below w.heap.size w wr) (fun v32 _=>t.size - (intOf v32).toNat)
 case atStart=>exact ⟨0,by omega,rfl,t2,bl⟩
 case round =>
  clear t2 bl
  obtain ⟨i,hi,rfl,t2,bl⟩:=hrel
  by_cases hil:i<t.size
  ·obtain ⟨c1,c2⟩:=HD.out i hil
   have c1':¬ ((t[i].toNat:Nat):Int)<48:=by omega
   have c2':¬ (57:Int)<((t[i].toNat:Nat):Int):=by omega
   go_wp2_with fail
   go_roundw
   case rel=>exact ⟨i+1,by omega,by go_num,t2,bl⟩
   case measure=>simp [intOf];omega
  ·obtain rfl:i=t.size:=by omega
   go_wp2_with fail
   go_loopw [7,53] (fun v7 v53 wr=>∃ (i:Nat) (A:Option Addr) (c:Nat),i≤t.size∧v53 = .int .i64 i∧v7 = .slice A (digs 4294967296 (numAt t i)).length c∧(digs 4294967296 (numAt t i)).length≤c∧Hid (RdAt wr .u32 A (digs 4294967296 (numAt t i)))∧Ob wr w.heap.size 23 #[.bool false,.string ⟨#[]⟩]∧Below w.heap.size w wr) (fun _ v53 _=>t.size - (intOf v53).toNat)
   case atStart=>exact ⟨0,none,0,by omega,rfl,by rw [numAt,zak];rfl,by rw [numAt,zak];exact Nat.le_refl _,Lib.hid (by rw [numAt,zak];exact RdAt.nil _ _ _),t2,bl⟩
   case round =>
    clear t2 bl
    obtain ⟨i,A,c,hi,rfl,rfl,hc,hr,t2,bl⟩:=hrel
    have hlen:(digs 4294967296 (numAt t i)).length≤400:=Nat.le_trans (zdP _ (by decide) t i (fun j _=>HD.out.dig j)) (by omega)
    by_cases hil:i<t.size
    ·obtain ⟨c1,c2⟩:=HD.out i hil
     obtain ⟨dv,hdv⟩:∃ d,d=digAt t i:=⟨_,rfl⟩
     have hdt:digAt t i=t[i].toNat - 48:=by unfold digAt;rw [dif_pos hil]
     have hd9:dv≤9:=by omega
     have hlen2:=zrG t i (by omega) (fun j _=>HD.out.dig j)
     have HMUL:=fun (A:Option Addr) c b W h1 h2=>Lib.hid (zrP A c b (numAt t i) W h1 h2 hlen)
     have HTRM:=fun b W h1=>Lib.hid (zpA b dv W hd9 h1)
     have HADD:=fun (P:Option Addr) cp b W h1 h2 h3=>Lib.hid (zrV P cp b (numAt t i * 10) dv (numAt t (i+1)) W hd9 h1 h2 h3 hlen2 (by rw [hdv];rfl))
     have q1:IntKind.u8.wrap (((t[i].toNat:Nat):Int) - 48)=(dv:Int):=by rw [show ((t[i].toNat:Nat):Int) - 48=(dv:Int) from by omega];exact wrb8 (by omega) (by omega)
     have q2:IntKind.u32.wrap (dv:Int)=(dv:Int):=wru32 (by omega) (by omega)
     have i1:(0:Int)≤(i:Int):=by omega
     have i2:(i:Int)<t.size:=by omega
     have HDV:=Lib.hid hdv
     clear hdv hdt
     go_wp2_with fail
     refine zdN (CB wr) 11 (.look 0 (.look 3 (.look 4 (.look 5 (.look 6 (.look 7 (.two 1 8 (.two 2 8 (.one 8 (.one 9 (.one 10 .nil))) (.one 2 (.one 9 (.one 10 .nil)))) (.one 1 (.one 2 (.one 9 (.one 10 .nil))))))))))) (by kernel_rfl) (by kernel_rfl) (CB.drew0 wr) ?_
     refine wpTr.eye _ (.slice A (digs 4294967296 (numAt t i)).length c) rfl (by kernel_rfl) (by intro w' hC;go_simp) ?_
     try simp only [Act.put,sIt,sIz,sIs]
     refine wpTr.eye _ (.string t) rfl (by kernel_rfl) (by intro w' hC;go_simp) ?_
     try simp only [Act.put,sIt,sIz,sIs]
     refine wpTr.eye _ (.int .i64 i) rfl (by kernel_rfl) (by intro w' hC;go_simp) ?_
     try simp only [Act.put,sIt,sIz,sIs]
     refine wpTr.eye _ (.int .u8 ((t[i]'hil).toNat:Nat)) rfl (by kernel_rfl) (by intro w' hC;go_simp) ?_
     try simp only [Act.put,sIt,sIz,sIs]
     refine wpTr.eye _ (.int .u8 (dv:Nat)) rfl (by kernel_rfl) (by intro w' hC;go_simp) ?_
     try simp only [Act.put,sIt,sIz,sIs]
     refine wpTr.eye _ (.int .u32 (dv:Nat)) rfl (by kernel_rfl) (by intro w' hC;go_simp) ?_
     try simp only [Act.put,sIt,sIz,sIs]
     clear q1 q2 i1 i2
     have hS:=CB.drew0 wr
     have hr:=Lib.hid (hr.out.below ((Below.refl wr.heap.size wr).drew))
     have t2:=t2.below ((Below.refl wr.heap.size wr).drew) t2.lt
     have bl:=bl.trans (Below.mono ((Below.refl wr.heap.size wr).drew) bl.size)
     generalize World.drew wr=V0 at hS hr t2 bl ⊢
     refine wpTr.do2 ?_ ?_
     focus
      refine wpTr.do1 _ rfl (fun K hK=>?_)
      go_simp
      have hS2:=hS.step ((Below.refl V0.heap.size V0).alloc (Nat.le_refl _) (.cells #[.int .u32 (10:Nat)] 144))
      refine hK.out _ _ hS2 ?_
      clear hK K
      have hT:=Lib.hid (zaY (Ob.new V0 144 #[.int .u32 (10:Nat)]))
      have hA:=(Below.refl V0.heap.size V0).alloc (Nat.le_refl _) (.cells #[.int .u32 (10:Nat)] 144)
      have hr:=Lib.hid (hr.out.below hA)
      have t2:=t2.below hA t2.lt
      have bl:=bl.trans (Below.mono hA bl.size)
      have hS:=hS2
      clear hS2 hA
      generalize hbn:V0.heap.size=bhT at *
      clear hbn
      generalize World.alloc V0 _=V1 at *
      try simp only [Act.put,sIt,sIz,sIs]
      refine wpTr.do2 ?_ ?_
      focus
       refine wpTr.do1 _ rfl (fun K hK=>?_)
       go_simp
       refine (HMUL A c bhT V1 hr.out hT.out).out.mono ?_
       rintro e V2 ⟨P,cp,rfl,hcp,hP0,hb⟩
       have hS2:=hS.step hb
       dsimp only
       refine hK.out _ _ hS2 ?_
       clear hK K
       have t2:=t2.bl hb
       have bl:=bl.upb hb bl.size
       have hS:=hS2
       clear hS2 hb
       try simp only [Act.put,sIt,sIz,sIs]
       have hP:=Lib.hid hP0
       have hCP:=Lib.hid hcp
       clear hP0 hcp
       refine wpTr.do1 _ rfl (fun K hK=>?_)
       go_simp
       have hS2:=hS.step ((Below.refl V2.heap.size V2).alloc (Nat.le_refl _) (.cells #[.int .u32 (dv:Nat)] 144))
       refine hK.out _ _ hS2 ?_
       clear hK K
       have hD:=Lib.hid (zaY (Ob.new V2 144 #[.int .u32 (dv:Nat)]))
       have hA:=(Below.refl V2.heap.size V2).alloc (Nat.le_refl _) (.cells #[.int .u32 (dv:Nat)] 144)
       have hP:=Lib.hid (hP.out.below hA)
       have t2:=t2.below hA t2.lt
       have bl:=bl.trans (Below.mono hA bl.size)
       have hS:=hS2
       clear hS2 hA
       generalize hbn:V2.heap.size=bhD at *
       clear hbn
       generalize World.alloc V2 _=V3 at *
       try simp only [Act.put,sIt,sIz,sIs]
       refine wpTr.do1 _ rfl (fun K hK=>?_)
       go_simp
       refine (HTRM bhD V3 hD.out).out.mono ?_
       rintro e V4 ⟨rfl,hb⟩
       have hS2:=hS.step hb
       dsimp only
       refine hK.out _ _ hS2 ?_
       clear hK K
       have hP:=Lib.hid (hP.out.below hb)
       have hD:=Lib.hid (hD.out.below hb)
       have t2:=t2.bl hb
       have bl:=bl.upb hb bl.size
       have hS:=hS2
       clear hS2 hb
       try simp only [Act.put,sIt,sIz,sIs]
       refine wpTr.do1 _ rfl (fun K hK=>?_)
       go_simp
       refine (HADD P cp bhD V4 hP.out hCP.out (Lib.hid hD.out).out).out.mono ?_
       rintro e V5 ⟨R,cr,rfl,hcr,hR0,hb⟩
       have hS2:=hS.step hb
       dsimp only
       refine hK.out _ _ hS2 ?_
       clear hK K
       have t2:=t2.bl hb
       have bl:=bl.upb hb bl.size
       have hS:=hS2
       clear hS2 hb
       try simp only [Act.put,sIt,sIz,sIs]
       have hR:=Lib.hid hR0
       clear hR0
       simp only [wpTr,List.drop_succ_cons,List.drop_zero]
       go_wp2_with fail
       refine NoPanic.normal ?_
       go_wp2_with fail
       go_roundw
       case rel=>exact ⟨i+1,R,cr,by omega,by go_num,rfl,hcr,hR,t2,bl⟩
       case measure=>simp [intOf];omega
      focus
       refine wpTr.do1 _ rfl (fun K hK=>?_)
       go_simp
       have hS2:=hS.step ((Below.refl V1.heap.size V1).alloc (Nat.le_refl _) (.cells #[.int .u32 (dv:Nat)] 144))
       refine hK.out _ _ hS2 ?_
       clear hK K
       have hD:=Lib.hid (zaY (Ob.new V1 144 #[.int .u32 (dv:Nat)]))
       have hA:=(Below.refl V1.heap.size V1).alloc (Nat.le_refl _) (.cells #[.int .u32 (dv:Nat)] 144)
       have hr:=Lib.hid (hr.out.below hA)
       have hT:=Lib.hid (hT.out.below hA)
       have t2:=t2.below hA t2.lt
       have bl:=bl.trans (Below.mono hA bl.size)
       have hS:=hS2
       clear hS2 hA
       generalize hbn:V1.heap.size=bhD at *
       clear hbn
       generalize World.alloc V1 _=V6 at *
       try simp only [Act.put,sIt,sIz,sIs]
       refine wpTr.do1 _ rfl (fun K hK=>?_)
       go_simp
       refine (HMUL A c bhT V6 hr.out hT.out).out.mono ?_
       rintro e V7 ⟨P,cp,rfl,hcp,hP0,hb⟩
       have hS2:=hS.step hb
       dsimp only
       refine hK.out _ _ hS2 ?_
       clear hK K
       have hD:=Lib.hid (hD.out.below hb)
       have t2:=t2.bl hb
       have bl:=bl.upb hb bl.size
       have hS:=hS2
       clear hS2 hb
       try simp only [Act.put,sIt,sIz,sIs]
       have hP:=Lib.hid hP0
       have hCP:=Lib.hid hcp
       clear hP0 hcp
       refine wpTr.do1 _ rfl (fun K hK=>?_)
       go_simp
       refine (HTRM bhD V7 hD.out).out.mono ?_
       rintro e V8 ⟨rfl,hb⟩
       have hS2:=hS.step hb
       dsimp only
       refine hK.out _ _ hS2 ?_
       clear hK K
       have hP:=Lib.hid (hP.out.below hb)
       have hD:=Lib.hid (hD.out.below hb)
       have t2:=t2.bl hb
       have bl:=bl.upb hb bl.size
       have hS:=hS2
       clear hS2 hb
       try simp only [Act.put,sIt,sIz,sIs]
       refine wpTr.do1 _ rfl (fun K hK=>?_)
       go_simp
       refine (HADD P cp bhD V8 hP.out hCP.out (Lib.hid hD.out).out).out.mono ?_
       rintro e V9 ⟨R,cr,rfl,hcr,hR0,hb⟩
       have hS2:=hS.step hb
       dsimp only
       refine hK.out _ _ hS2 ?_
       clear hK K
       have t2:=t2.bl hb
       have bl:=bl.upb hb bl.size
       have hS:=hS2
       clear hS2 hb
       try simp only [Act.put,sIt,sIz,sIs]
       have hR:=Lib.hid hR0
       clear hR0
       simp only [wpTr,List.drop_succ_cons,List.drop_zero]
       go_wp2_with fail
       refine NoPanic.normal ?_
       go_wp2_with fail
       go_roundw
       case rel=>exact ⟨i+1,R,cr,by omega,by go_num,rfl,hcr,hR,t2,bl⟩
       case measure=>simp [intOf];omega
     focus
      refine wpTr.do1 _ rfl (fun K hK=>?_)
      go_simp
      have hS2:=hS.step ((Below.refl V0.heap.size V0).alloc (Nat.le_refl _) (.cells #[.int .u32 (dv:Nat)] 144))
      refine hK.out _ _ hS2 ?_
      clear hK K
      have hD:=Lib.hid (zaY (Ob.new V0 144 #[.int .u32 (dv:Nat)]))
      have hA:=(Below.refl V0.heap.size V0).alloc (Nat.le_refl _) (.cells #[.int .u32 (dv:Nat)] 144)
      have hr:=Lib.hid (hr.out.below hA)
      have t2:=t2.below hA t2.lt
      have bl:=bl.trans (Below.mono hA bl.size)
      have hS:=hS2
      clear hS2 hA
      generalize hbn:V0.heap.size=bhD at *
      clear hbn
      generalize World.alloc V0 _=V10 at *
      try simp only [Act.put,sIt,sIz,sIs]
      refine wpTr.do1 _ rfl (fun K hK=>?_)
      go_simp
      have hS2:=hS.step ((Below.refl V10.heap.size V10).alloc (Nat.le_refl _) (.cells #[.int .u32 (10:Nat)] 144))
      refine hK.out _ _ hS2 ?_
      clear hK K
      have hT:=Lib.hid (zaY (Ob.new V10 144 #[.int .u32 (10:Nat)]))
      have hA:=(Below.refl V10.heap.size V10).alloc (Nat.le_refl _) (.cells #[.int .u32 (10:Nat)] 144)
      have hr:=Lib.hid (hr.out.below hA)
      have hD:=Lib.hid (hD.out.below hA)
      have t2:=t2.below hA t2.lt
      have bl:=bl.trans (Below.mono hA bl.size)
      have hS:=hS2
      clear hS2 hA
      generalize hbn:V10.heap.size=bhT at *
      clear hbn
      generalize World.alloc V10 _=V11 at *
      try simp only [Act.put,sIt,sIz,sIs]
      refine wpTr.do1 _ rfl (fun K hK=>?_)
      go_simp
      refine (HMUL A c bhT V11 hr.out hT.out).out.mono ?_
      rintro e V12 ⟨P,cp,rfl,hcp,hP0,hb⟩
      have hS2:=hS.step hb
      dsimp only
      refine hK.out _ _ hS2 ?_
      clear hK K
      have hD:=Lib.hid (hD.out.below hb)
      have t2:=t2.bl hb
      have bl:=bl.upb hb bl.size
      have hS:=hS2
      clear hS2 hb
      try simp only [Act.put,sIt,sIz,sIs]
      have hP:=Lib.hid hP0
      have hCP:=Lib.hid hcp
      clear hP0 hcp
      refine wpTr.do1 _ rfl (fun K hK=>?_)
      go_simp
      refine (HTRM bhD V12 hD.out).out.mono ?_
      rintro e V13 ⟨rfl,hb⟩
      have hS2:=hS.step hb
      dsimp only
      refine hK.out _ _ hS2 ?_
      clear hK K
      have hP:=Lib.hid (hP.out.below hb)
      have hD:=Lib.hid (hD.out.below hb)
      have t2:=t2.bl hb
      have bl:=bl.upb hb bl.size
      have hS:=hS2
      clear hS2 hb
      try simp only [Act.put,sIt,sIz,sIs]
      refine wpTr.do1 _ rfl (fun K hK=>?_)
      go_simp
      refine (HADD P cp bhD V13 hP.out hCP.out (Lib.hid hD.out).out).out.mono ?_
      rintro e V14 ⟨R,cr,rfl,hcr,hR0,hb⟩
      have hS2:=hS.step hb
      dsimp only
      refine hK.out _ _ hS2 ?_
      clear hK K
      have t2:=t2.bl hb
      have bl:=bl.upb hb bl.size
      have hS:=hS2
      clear hS2 hb
      try simp only [Act.put,sIt,sIz,sIs]
      have hR:=Lib.hid hR0
      clear hR0
      simp only [wpTr,List.drop_succ_cons,List.drop_zero]
      go_wp2_with fail
      refine NoPanic.normal ?_
      go_wp2_with fail
      go_roundw
      case rel=>exact ⟨i+1,R,cr,by omega,by go_num,rfl,hcr,hR,t2,bl⟩
      case measure=>simp [intOf];omega
    ·obtain rfl:i=t.size:=by omega
     have HW:=Lib.hid (zbs A c (numAt t t.size) false wr hr.out (by omega))
     go_wp2_with fail
     refine (HW.out).mono ?_
     rintro e W1 ⟨rfl,hb⟩
     have t2:=t2.bl hb
     have bl:=bl.upb hb bl.size
     clear hb
     try simp only [ptr,Act.put,sIt,sIz,sIs]
     have fr2:=t2.free
     obtain ⟨z2_0,z2_1⟩:=t2.cells2
     go_wp2_with fail
     clear fr2 z2_0 z2_1
     have t2:=t2.set2 (.bool (sg (sgnd false (numAt t t.size)))) (.string (mg (sgnd false (numAt t t.size))))
     have bl:=(zah (zah bl (show w.heap.size≤w.heap.size by omega) 0 (.bool (sg (sgnd false (numAt t t.size))))) (show w.heap.size≤w.heap.size by omega) 1 (.string (mg (sgnd false (numAt t t.size)))))
     generalize World.setCell (World.setCell W1 _ _) _ _=W2 at t2 bl ⊢
     obtain ⟨r2_0,r2_1⟩:=t2.cells2
     exact bodyPost_ret (v:=.tuple #[vI (sgnd false (numAt t t.size)),.int .i64 0]) (by simp [results,Tryz.results201,go_sem,r2_0,r2_1]) rfl (⟨rfl,bl⟩)
def parseN (t:ByteArray) (neg:Bool) (e:Int):Int:=if e=0 then sgnd neg (numAt t t.size) else 0
open Classical in
noncomputable def parseE (t:ByteArray) (neg:Bool):Int:=if shapeB neg t=true∧AllD t then (if t.size≤400 then 0 else 3) else 4

open Go Go.RowKit
theorem zbd {P:Program} {f:FuncId} {fn:Func} {c:Code} {w:World} {v:Value} (hm:P.follows .mixedOrders=true) (hf:P.funcs[f]?=some fn) (hb:fn.body=some c) (b:Nat) (t:TypeId) (cs cs':Array Value) (hB:Hc w b t cs) (args:List Value) (hsz:args.length+1≤fn.ntmps)
  (lk:List (Nat × Nat)) (ds:List Dec) (ps:List (Item P ⟨w,[b]⟩))
  (h:∀ r,vmL (vmF' lk fn c ((0,(.pointer (some ⟨r 0,0,none⟩),1)) :: env0 1 args) [(0,(t,cs))] 1 r ds ps (fun _=>v) (fun _=>[(0,(t,cs'))]))=vmR (vmF' lk fn c ((0,(.pointer (some ⟨r 0,0,none⟩),1)) :: env0 1 args) [(0,(t,cs))] 1 r ds ps (fun _=>v) (fun _=>[(0,(t,cs'))])):=by intro r;kernel_rfl)
  (h2:∀ r,vmSL (vmF' lk fn c ((0,(.pointer (some ⟨r 0,0,none⟩),1)) :: env0 1 args) [(0,(t,cs))] 1 r ds ps (fun _=>v) (fun _=>[(0,(t,cs'))]))=vmSR (vmF' lk fn c ((0,(.pointer (some ⟨r 0,0,none⟩),1)) :: env0 1 args) [(0,(t,cs))] 1 r ds ps (fun _=>v) (fun _=>[(0,(t,cs'))])):=by intro r;kernel_rfl) :
  Calls P f ((.pointer (some ⟨b,0,none⟩) :: args:List Value)).toArray w (fun e w'=>e = .returned v∧Hc w' b t cs'∧Chg [b] w w'):=by
 have hE:∀ r:Nat→Nat,(∀ k,k<1→r k=b)→((0,(.pointer (some ⟨b,0,none⟩),1)) :: env0 1 args:Env)=(0,(.pointer (some ⟨r 0,0,none⟩),1)) :: env0 1 args:=fun r hr=>by rw [hr 0 (by omega)]
 have:=zns (X:=⟨w,[b]⟩) hm hf hb lk ((0,(.pointer (some ⟨b,0,none⟩),1)) :: env0 1 args) [(0,(t,cs))] 1 (fun _=>b) ((.pointer (some ⟨b,0,none⟩) :: args:List Value)).toArray (fun k=>?_) (by simpa using hsz) (zab kr)
  ⟨Chg.refl _ _,fun k x h=>?_,fun k k' x x' h h' _=>?_⟩ ds ps (fun _=>v) (fun _=>[(0,(t,cs'))]) (fun r hr=>by rw [hE r hr];exact h r) (fun r hr=>by rw [hE r hr];exact h2 r)
 ·refine this.mono ?_
  rintro e w' ⟨r,hr,he,hc,ho⟩
  have h0:=(ho _ List.mem_cons_self).1
  rw [hr 0 (by omega)] at h0
  exact ⟨he,h0,hc⟩
 ·rw [zen]
  show envV ((0,(.pointer (some ⟨b,0,none⟩),0)) :: env0 1 args) k=_
  by_cases hk:0=k
  ·subst hk;rfl
  ·unfold envV
   rw [zaK _ _ hk,zaK _ _ hk]
 ·have:=zaM h
  simp only [List.mem_singleton,Prod.mk.injEq] at this
  obtain ⟨rfl,rfl⟩:=this
  exact ⟨hB,.inr (by simp)⟩
 ·have h1:=zaM h
  have h2:=zaM h'
  simp only [List.mem_singleton,Prod.mk.injEq] at h1 h2
  omega
def rdC (l:List UInt8) (e:Int):Array Value:=#[.string ⟨l.toArray⟩,.int .i64 e]
def RetRd (b:Nat) (v:Value) (l:List UInt8) (e:Int) (w:World) (r:Ending) (w':World):Prop:=r = .returned v∧Hc w' b 95 (rdC l e)∧Chg [b] w w'
theorem zav (b:Nat) (l:List UInt8) (p:ByteArray) (e:Int) (w:World) (hB:Hc w b 95 (rdC l e)):Calls Tryz.prog 112 #[.pointer (some ⟨b,0,none⟩),.string p] w (RetRd b (.bool (Lib.hasPrefix l p.data.toList)) (Lib.trimPrefix l p.data.toList) e w):=by
 have H:∀ w,Calls Tryz.prog 140 #[.string ⟨l.toArray⟩,.string p] w (RetV (.tuple #[.string ⟨(Lib.trimPrefix l p.data.toList).toArray⟩,.bool (Lib.hasPrefix l p.data.toList)]) w):=fun w=>(Tryz.strings_CutPrefix ⟨l.toArray⟩ p w).mono (fun e w' ⟨h1,h2⟩=>⟨h1,by rw [h2];exact Below.refl _ _⟩)
 generalize Lib.trimPrefix l p.data.toList=l' at *
 generalize Lib.hasPrefix l p.data.toList=bb at *
 exact zbd kr Tryz.func112 rfl b 95 (rdC l e) (rdC l' e) (hB) [.string p] nle [] [] [cV (H)]
def e14:Nm:=⟨1,0,0,0,4⟩
def e1:Nm:=⟨0,1,0,0,4⟩
def e3:Nm:=⟨0,0,0,1,4⟩
def e4:Nm:=⟨0,1,0,1,4⟩
theorem BN1 (a b c d e:Int) (h:(Nat.blt a.natAbs 256 && Nat.blt b.natAbs 256 && Nat.blt c.natAbs 256 && Nat.blt d.natAbs 256 && Nat.blt e.natAbs 256)=true):BN 1 ⟨a,b,c,d,e⟩:=by
 simp only [Bool.and_eq_true,Nat.blt_eq] at h
 obtain ⟨⟨⟨⟨h0,h1⟩,h2⟩,h3⟩,h4⟩:=h
 exact ⟨h0,h1,h2,h3,h4⟩
theorem zfL (x:Nm) (h:(decide (0<x.d) && Nat.beq (cof x) 1)=true):Ok x:=by
 simp only [Bool.and_eq_true,decide_eq_true_eq] at h
 exact ⟨h.1,Nat.eq_of_beq_eq_true h.2⟩

theorem Chg.bl0 {w w':World} (hc:Chg [] w w'):Below w.heap.size w w':=hc.below (Nat.le_refl _) (fun x h=>by cases h)
def e5:Nm:=⟨0,-1,1,0,1⟩
theorem zc2 (n:Int) (w:World) (h0:-9223372036854775808≤n) (h1:n≤9223372036854775807):Calls Tryz.prog 27 #[.int .i64 n] w (RetV (vN (intN n)) w):=by
 have H1:=fun w=>zar n w h0 h1
 have H2:=fun w=>zar 1 w (by omega) (by omega)
 unfold intN
 rw [zi5]
 exact zac kr Tryz.func27 rfl [.int .i64 n] nle [] [] [cV (H1),cV (H2)]
def e6:Nm:=⟨0,1,1,0,1⟩
def e7:Nm:=⟨1,1,0,0,1⟩
def e8:Nm:=⟨1,-1,0,0,1⟩
theorem zjh (k:Int) (h:k.natAbs<256):BN 1 (intN k):=BN.int (show Bd 1 k by unfold Bd;omega) (Nat.le_refl 1)
end Go.Proofs.YtegnalgjjmpcmaaGreatDoor
