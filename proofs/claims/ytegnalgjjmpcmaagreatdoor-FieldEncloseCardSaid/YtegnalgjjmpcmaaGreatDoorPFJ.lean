import Derived.Test.YtegnalgjjmpcmaaGreatDoorPFB
import Derived.Test.YtegnalgjjmpcmaaGreatDoorPFI
import Derived.Test.YtegnalgjjmpcmaaGreatDoorPFC
set_option linter.unusedVariables false
set_option linter.unusedSimpArgs false
set_option maxRecDepth 100000
set_option maxHeartbeats 8000000
namespace Go.Proofs.YtegnalgjjmpcmaaGreatDoor
open Go.RowKit
def digAt (t:ByteArray) (i:Nat):Nat:=if h:i<t.size then t[i].toNat - 48 else 0
def numAt (t:ByteArray):Nat→Nat
 | 0=>0
 | i+1=>numAt t i * 10+digAt t i
theorem zhD (t:ByteArray) (i:Nat) (h:∀ j,j<i→digAt t j≤9):numAt t i<10 ^ i:=by
 induction i with
 | zero=>exact (by decide:0<10 ^ 0)
 | succ i ih =>
  have h1:=ih (fun j hj=>h j (by omega))
  have h2:=h i (by omega)
  rw [Nat.pow_succ]
  unfold numAt
  omega
theorem zgb (M:Nat) (hM:10≤M) (t:ByteArray) (i:Nat) (h:∀ j,j<i→digAt t j≤9):(digs M (numAt t i)).length≤i :=
 zan (by omega) (Nat.lt_of_lt_of_le (zhD t i h) (Nat.pow_le_pow_left hM i))
theorem zmr {M:Nat} (hM:11≤M):digs M 10 = [10]:=zdj (by omega) (by decide) (by omega)
theorem zgH {M d:Nat} (hM:10≤M) (hd:d≤9):trimL [d]=digs M d:=by
 by_cases h:d=0
 ·subst h;rw [zaj];rfl
 ·rw [zdj (by omega) h (by omega)]
  exact zcb [] d h
theorem zce {w:World} {k:IntKind} {t:TypeId} {b d:Nat} (h:Ob w b t #[.int k (d:Nat)]):RdAt w k (some ⟨b,0,none⟩) [d]:=fun i hi=>by
 have:i=0:=by simpa using hi
 subst this
 exact ⟨b,0,rfl,h.cells1⟩
def shapeB (neg:Bool) (t:ByteArray):Bool:=if h:0<t.size then !(decide (t[0].toNat=48) && (decide (1<t.size) || neg)) else false
theorem zj1 (s t:ByteArray) (neg:Bool) (w:World) (h:shapeB neg t=false)
  (HC:∀ W,Calls Tryz.prog 140 #[.string s,.string ⟨#[45]⟩] W (fun e w'=>e = .returned (.tuple #[.string t,.bool neg])∧Below W.heap.size W w')) :
  Calls Tryz.prog 201 #[.string s] w (RetIE 0 4 w):=by
 replace HC:=fun W=>Lib.hid (HC W)
 unfold shapeB at h
 by_cases h0:0<t.size
 ·obtain ⟨e1,e2⟩:=zaZ h0
  rw [dif_pos h0] at h
  simp only [Bool.not_eq_false',Bool.and_eq_true,decide_eq_true_eq,Bool.or_eq_true] at h
  obtain ⟨h48,h1⟩:=h
  by_cases hs:1<t.size
  ·have hs':(1:Int)<t.size:=by omega
   clear h1
   go_enter Tryz.func201,Tryz.ntmps201
   go_wp2_with fail
   have t2:=Ob.new (w) 23 #[.bool false,.string ⟨#[]⟩]
   have bl:=((Below.refl w.heap.size w).alloc (Nat.le_refl _) (.cells #[.bool false,.string ⟨#[]⟩] 23))
   try simp only [World.size_alloc] at t2
   generalize World.alloc w _=W1 at t2 bl ⊢
   refine ((HC W1).out).mono ?_
   rintro e W2 ⟨rfl,hb⟩
   have t2:=t2.bl hb
   have bl:=bl.upb hb bl.size
   clear hb
   try simp only [ptr,Act.put,sIt,sIz,sIs]
   have fr2:=t2.free
   obtain ⟨z2_0,z2_1⟩:=t2.cells2
   go_wp2_with fail
   clear fr2 z2_0 z2_1
   have t2:=t2.set2 (.bool false) (.string ⟨#[]⟩)
   have bl:=(zae (zae bl (show w.heap.size≤w.heap.size by omega) 0 (.bool false)) (show w.heap.size≤w.heap.size by omega) 1 (.string ⟨#[]⟩))
   generalize World.setCell (World.setCell W2 _ _) _ _=W3 at t2 bl ⊢
   obtain ⟨r2_0,r2_1⟩:=t2.cells2
   exact bodyPost_ret (v:=.tuple #[.agg #[.bool false,.string ⟨#[]⟩],.int .i64 4]) (by simp [results,Tryz.results201,go_sem,r2_0,r2_1]) rfl (⟨by rw [zaQ],bl⟩)
  ·have hs':¬ (1:Int)<t.size:=by omega
   obtain rfl:neg=true:=by
    rcases h1 with h | h
    ·exact absurd h hs
    ·exact h
   go_enter Tryz.func201,Tryz.ntmps201
   go_wp2_with fail
   have t2:=Ob.new (w) 23 #[.bool false,.string ⟨#[]⟩]
   have bl:=((Below.refl w.heap.size w).alloc (Nat.le_refl _) (.cells #[.bool false,.string ⟨#[]⟩] 23))
   try simp only [World.size_alloc] at t2
   generalize World.alloc w _=W1 at t2 bl ⊢
   refine ((HC W1).out).mono ?_
   rintro e W2 ⟨rfl,hb⟩
   have t2:=t2.bl hb
   have bl:=bl.upb hb bl.size
   clear hb
   try simp only [ptr,Act.put,sIt,sIz,sIs]
   have fr2:=t2.free
   obtain ⟨z2_0,z2_1⟩:=t2.cells2
   go_wp2_with fail
   clear fr2 z2_0 z2_1
   have t2:=t2.set2 (.bool false) (.string ⟨#[]⟩)
   have bl:=(zae (zae bl (show w.heap.size≤w.heap.size by omega) 0 (.bool false)) (show w.heap.size≤w.heap.size by omega) 1 (.string ⟨#[]⟩))
   generalize World.setCell (World.setCell W2 _ _) _ _=W3 at t2 bl ⊢
   obtain ⟨r2_0,r2_1⟩:=t2.cells2
   exact bodyPost_ret (v:=.tuple #[.agg #[.bool false,.string ⟨#[]⟩],.int .i64 4]) (by simp [results,Tryz.results201,go_sem,r2_0,r2_1]) rfl (⟨by rw [zaQ],bl⟩)
 ·obtain ⟨e1,e2⟩:=zbG (s:=t) (by omega)
  go_enter Tryz.func201,Tryz.ntmps201
  go_wp2_with fail
  have t2:=Ob.new (w) 23 #[.bool false,.string ⟨#[]⟩]
  have bl:=((Below.refl w.heap.size w).alloc (Nat.le_refl _) (.cells #[.bool false,.string ⟨#[]⟩] 23))
  try simp only [World.size_alloc] at t2
  generalize World.alloc w _=W1 at t2 bl ⊢
  refine ((HC W1).out).mono ?_
  rintro e W2 ⟨rfl,hb⟩
  have t2:=t2.bl hb
  have bl:=bl.upb hb bl.size
  clear hb
  try simp only [ptr,Act.put,sIt,sIz,sIs]
  have fr2:=t2.free
  obtain ⟨z2_0,z2_1⟩:=t2.cells2
  go_wp2_with fail
  clear fr2 z2_0 z2_1
  have t2:=t2.set2 (.bool false) (.string ⟨#[]⟩)
  have bl:=(zae (zae bl (show w.heap.size≤w.heap.size by omega) 0 (.bool false)) (show w.heap.size≤w.heap.size by omega) 1 (.string ⟨#[]⟩))
  generalize World.setCell (World.setCell W2 _ _) _ _=W3 at t2 bl ⊢
  obtain ⟨r2_0,r2_1⟩:=t2.cells2
  exact bodyPost_ret (v:=.tuple #[.agg #[.bool false,.string ⟨#[]⟩],.int .i64 4]) (by simp [results,Tryz.results201,go_sem,r2_0,r2_1]) rfl (⟨by rw [zaQ],bl⟩)
def AllD (t:ByteArray):Prop:=∀ i (h:i<t.size),48≤t[i].toNat∧t[i].toNat≤57
theorem AllD.dig {t:ByteArray} (h:AllD t) (j:Nat):digAt t j≤9:=by
 unfold digAt
 by_cases hj:j<t.size
 ·rw [dif_pos hj];have:=h j hj;omega
 ·rw [dif_neg hj];omega
theorem zov (t:ByteArray) (i:Nat) (hi:i≤400) (hd:∀ j,j<i→digAt t j≤9):(digs 4294967296 (numAt t i * 10)).length≤401:=by
 have h:=zan (B:=4294967296) (k:=i+1) (n:=numAt t i * 10) (by decide) (Nat.lt_of_lt_of_le (by
  have h1:=zhD t i hd
  rw [Nat.pow_succ]
  omega) (Nat.pow_le_pow_left (show 10≤4294967296 by decide) (i+1)))
 omega
theorem zoo (A:Option Addr) (c b n:Nat) (W:World) (h1:RdAt W .u32 A (digs 4294967296 n)) (h2:RdAt W .u32 (some ⟨b,0,none⟩) [10]) (hl:(digs 4294967296 n).length≤400) :
  Calls Tryz.prog 157 #[.slice A (digs 4294967296 n).length c,.slice (some ⟨b,0,none⟩) 1 1] W (RetD .u32 4294967296 (n * 10) W):=by
 have e:=zmr (M:=4294967296) (by decide)
 have h:=zkY A (some ⟨b,0,none⟩) c 1 n 10 W h1 (by rw [e];exact h2) (by omega) (by rw [e];decide)
 rw [e] at h
 exact h
theorem zmJ (b dv:Nat) (W:World) (hd9:dv≤9) (h1:RdAt W .u32 (some ⟨b,0,none⟩) [dv]) :
  Calls Tryz.prog 181 #[.slice (some ⟨b,0,none⟩) 1 1] W (fun e w'=>e = .returned (.slice (some ⟨b,0,none⟩) (digs 4294967296 dv).length 1)∧Below W.heap.size W w') :=
 (zbf (some ⟨b,0,none⟩) 1 1 [dv] W (Lib.hid rfl) (Lib.hid h1) (by omega) (by omega)).mono (by
  rintro e w' ⟨rfl,rfl⟩
  exact ⟨by rw [zgH (M:=4294967296) (by decide) hd9],Below.refl _ _⟩)
theorem zox (P:Option Addr) (cp b p dv r:Nat) (W:World) (hd9:dv≤9) (h1:RdAt W .u32 P (digs 4294967296 p)) (h2:(digs 4294967296 p).length≤cp) (h3:RdAt W .u32 (some ⟨b,0,none⟩) [dv]) (hl:(digs 4294967296 p).length≤401) (hr:r=p+dv) :
  Calls Tryz.prog 153 #[.slice P (digs 4294967296 p).length cp,.slice (some ⟨b,0,none⟩) (digs 4294967296 dv).length 1] W (RetD .u32 4294967296 r W):=by
 have hl1:(digs 4294967296 dv).length≤1:=zan (by decide) (by omega)
 have h:=zg6 P (some ⟨b,0,none⟩) cp 1 p dv W h1 (by rw [← zgH (M:=4294967296) (by decide) hd9];exact h3.trimL) (by omega) (by omega) h2 hl1
 rw [hr]
 exact h
theorem wrb8 {x:Int} (h:0≤x) (h':x≤255):IntKind.u8.wrap x=x:=by
 have e:IntKind.u8.wrap x=x % 256:=by simp [IntKind.wrap,IntKind.bits,IntKind.signed]
 rw [e];omega
theorem wru32 {x:Int} (h:0≤x) (h':x≤4294967295):IntKind.u32.wrap x=x:=by
 have e:IntKind.u32.wrap x=x % 4294967296:=by simp [IntKind.wrap,IntKind.bits,IntKind.signed]
 rw [e];omega
theorem zj3 (s t:ByteArray) (neg:Bool) (w:World) (h0:0<t.size) (h48:¬ (t[0]'h0).toNat=48) (hd:¬ AllD t) (hsz:t.size≤1000000000)
  (HC:∀ W,Calls Tryz.prog 140 #[.string s,.string ⟨#[45]⟩] W (fun e w'=>e = .returned (.tuple #[.string t,.bool neg])∧Below W.heap.size W w')) :
  Calls Tryz.prog 201 #[.string s] w (RetIE 0 4 w):=by
 replace HC:=fun W=>Lib.hid (HC W)
 have HD:=Lib.hid hd
 clear hd
 skip
 obtain ⟨e1,e2⟩:=zaZ h0
 go_enter Tryz.func201,Tryz.ntmps201
 go_wp2_with fail
 have t2:=Ob.new (w) 23 #[.bool false,.string ⟨#[]⟩]
 have bl:=((Below.refl w.heap.size w).alloc (Nat.le_refl _) (.cells #[.bool false,.string ⟨#[]⟩] 23))
 try simp only [World.size_alloc] at t2
 generalize World.alloc w _=W1 at t2 bl ⊢
 refine ((HC W1).out).mono ?_
 rintro e W2 ⟨rfl,hb⟩
 have t2:=t2.bl hb
 have bl:=bl.upb hb bl.size
 clear hb
 go_wp2_with fail
 clear HC h48
 go_loopw [32] (fun v32 wr=>∃ i:Nat,i≤t.size∧v32 = .int .i64 i∧Hid (∀ j (h:j<t.size),j<i→48≤t[j].toNat∧t[j].toNat≤57)∧Ob wr w.heap.size 23 #[.bool false,.string ⟨#[]⟩]∧Below w.heap.size w wr) (fun v32 _=>t.size - (intOf v32).toNat)
 case atStart=>exact ⟨0,by omega,rfl,Lib.hid (fun j h hj=>by omega),t2,bl⟩
 case round =>
  clear t2 bl
  obtain ⟨i,hi,rfl,hI,t2,bl⟩:=hrel
  by_cases hil:i<t.size
  ·have fr2:=t2.free
   obtain ⟨z2_0,z2_1⟩:=t2.cells2
   by_cases c1:t[i].toNat<48
   ·have c1':((t[i].toNat:Nat):Int)<48:=by omega
    go_wp2_with fail
    clear fr2 z2_0 z2_1
    have t2:=t2.set2 (.bool false) (.string ⟨#[]⟩)
    have bl:=(zae (zae bl (show w.heap.size≤w.heap.size by omega) 0 (.bool false)) (show w.heap.size≤w.heap.size by omega) 1 (.string ⟨#[]⟩))
    generalize World.setCell (World.setCell wr _ _) _ _=W3 at t2 bl ⊢
    obtain ⟨r2_0,r2_1⟩:=t2.cells2
    exact bodyPost_ret (v:=.tuple #[.agg #[.bool false,.string ⟨#[]⟩],.int .i64 4]) (by simp [results,Tryz.results201,go_sem,r2_0,r2_1]) rfl (⟨by rw [zaQ],bl⟩)
   by_cases c2:57<t[i].toNat
   ·have c1':¬ ((t[i].toNat:Nat):Int)<48:=by omega
    have c2':(57:Int)<((t[i].toNat:Nat):Int):=by omega
    go_wp2_with fail
    clear fr2 z2_0 z2_1
    have t2:=t2.set2 (.bool false) (.string ⟨#[]⟩)
    have bl:=(zae (zae bl (show w.heap.size≤w.heap.size by omega) 0 (.bool false)) (show w.heap.size≤w.heap.size by omega) 1 (.string ⟨#[]⟩))
    generalize World.setCell (World.setCell wr _ _) _ _=W3 at t2 bl ⊢
    obtain ⟨r2_0,r2_1⟩:=t2.cells2
    exact bodyPost_ret (v:=.tuple #[.agg #[.bool false,.string ⟨#[]⟩],.int .i64 4]) (by simp [results,Tryz.results201,go_sem,r2_0,r2_1]) rfl (⟨by rw [zaQ],bl⟩)
   clear fr2 z2_0 z2_1
   have c1':¬ ((t[i].toNat:Nat):Int)<48:=by omega
   have c2':¬ (57:Int)<((t[i].toNat:Nat):Int):=by omega
   go_wp2_with fail
   go_roundw
   case rel=>exact ⟨i+1,by omega,by go_num,Lib.hid (fun j h hj=>by
    by_cases hji:j=i
    ·subst hji;omega
    ·exact hI.out j h (by omega)),t2,bl⟩
   case measure=>simp [intOf];omega
  ·obtain rfl:i=t.size:=by omega
   exact absurd (fun j h=>hI.out j h h) HD.out
theorem ziG (s t:ByteArray) (neg:Bool) (w:World) (h0:0<t.size) (h48:¬ (t[0]'h0).toNat=48) (hd:AllD t) (hl:400<t.size) (hsz:t.size≤1000000000)
  (HC:∀ W,Calls Tryz.prog 140 #[.string s,.string ⟨#[45]⟩] W (fun e w'=>e = .returned (.tuple #[.string t,.bool neg])∧Below W.heap.size W w')) :
  Calls Tryz.prog 201 #[.string s] w (RetIE 0 3 w):=by
 replace HC:=fun W=>Lib.hid (HC W)
 have HD:=Lib.hid hd
 clear hd
 have hl':(400:Int)<t.size:=by omega
 obtain ⟨e1,e2⟩:=zaZ h0
 go_enter Tryz.func201,Tryz.ntmps201
 go_wp2_with fail
 have t2:=Ob.new (w) 23 #[.bool false,.string ⟨#[]⟩]
 have bl:=((Below.refl w.heap.size w).alloc (Nat.le_refl _) (.cells #[.bool false,.string ⟨#[]⟩] 23))
 try simp only [World.size_alloc] at t2
 generalize World.alloc w _=W1 at t2 bl ⊢
 refine ((HC W1).out).mono ?_
 rintro e W2 ⟨rfl,hb⟩
 have t2:=t2.bl hb
 have bl:=bl.upb hb bl.size
 clear hb
 go_wp2_with fail
 clear HC h48
 go_loopw [32] (fun v32 wr=>∃ i:Nat,i≤t.size∧v32 = .int .i64 i∧True∧Ob wr w.heap.size 23 #[.bool false,.string ⟨#[]⟩]∧Below w.heap.size w wr) (fun v32 _=>t.size - (intOf v32).toNat)
 case atStart=>exact ⟨0,by omega,rfl,trivial,t2,bl⟩
 case round =>
  clear t2 bl
  obtain ⟨i,hi,rfl,hI,t2,bl⟩:=hrel
  by_cases hil:i<t.size
  ·obtain ⟨c1,c2⟩:=HD.out i hil
   have c1':¬ ((t[i].toNat:Nat):Int)<48:=by omega
   have c2':¬ (57:Int)<((t[i].toNat:Nat):Int):=by omega
   go_wp2_with fail
   go_roundw
   case rel=>exact ⟨i+1,by omega,by go_num,trivial,t2,bl⟩
   case measure=>simp [intOf];omega
  ·obtain rfl:i=t.size:=by omega
   have fr2:=t2.free
   obtain ⟨z2_0,z2_1⟩:=t2.cells2
   go_wp2_with fail
   clear fr2 z2_0 z2_1
   have t2:=t2.set2 (.bool false) (.string ⟨#[]⟩)
   have bl:=(zae (zae bl (show w.heap.size≤w.heap.size by omega) 0 (.bool false)) (show w.heap.size≤w.heap.size by omega) 1 (.string ⟨#[]⟩))
   generalize World.setCell (World.setCell wr _ _) _ _=W3 at t2 bl ⊢
   obtain ⟨r2_0,r2_1⟩:=t2.cells2
   exact bodyPost_ret (v:=.tuple #[.agg #[.bool false,.string ⟨#[]⟩],.int .i64 3]) (by simp [results,Tryz.results201,go_sem,r2_0,r2_1]) rfl (⟨by rw [zaQ],bl⟩)
theorem zjp (s t:ByteArray) (neg:Bool) (w:World) (h0:0<t.size) (h48:¬ (t[0]'h0).toNat=48) (hd:AllD t) (hl:t.size≤400)
  (HC:∀ W,Calls Tryz.prog 140 #[.string s,.string ⟨#[45]⟩] W (fun e w'=>e = .returned (.tuple #[.string t,.bool neg])∧Below W.heap.size W w')) :
  Calls Tryz.prog 201 #[.string s] w (RetIE (sgnd neg (numAt t t.size)) 0 w):=by
 replace HC:=fun W=>Lib.hid (HC W)
 have HD:=Lib.hid hd
 clear hd
 have hl':¬ (400:Int)<t.size:=by omega
 obtain ⟨e1,e2⟩:=zaZ h0
 skip
 go_enter Tryz.func201,Tryz.ntmps201
 go_wp2_with fail
 have t2:=Ob.new (w) 23 #[.bool false,.string ⟨#[]⟩]
 have bl:=((Below.refl w.heap.size w).alloc (Nat.le_refl _) (.cells #[.bool false,.string ⟨#[]⟩] 23))
 try simp only [World.size_alloc] at t2
 generalize World.alloc w _=W1 at t2 bl ⊢
 refine ((HC W1).out).mono ?_
 rintro e W2 ⟨rfl,hb⟩
 have t2:=t2.bl hb
 have bl:=bl.upb hb bl.size
 clear hb
 go_wp2_with fail
 clear HC h48
 go_loopw [32] (fun v32 wr=>∃ i:Nat,i≤t.size∧v32 = .int .i64 i∧Ob wr w.heap.size 23 #[.bool false,.string ⟨#[]⟩]∧Below w.heap.size w wr) (fun v32 _=>t.size - (intOf v32).toNat)
 case atStart=>exact ⟨0,by omega,rfl,t2,bl⟩
 case round =>
  clear t2 bl
  obtain ⟨i,hi,rfl,t2,bl⟩:=hrel
  by_cases hil:i<t.size
  ·obtain ⟨c1,c2⟩:=HD.out i hil
   have c1':¬ ((t[i].toNat:Nat):Int)<48:=by omega
   have c2':¬ (57:Int)<((t[i].toNat:Nat):Int):=by omega
   go_wp2_with fail
   go_roundw
   case rel=>exact ⟨i+1,by omega,by go_num,t2,bl⟩
   case measure=>simp [intOf];omega
  ·obtain rfl:i=t.size:=by omega
   go_wp2_with fail
   go_loopw [7,53] (fun v7 v53 wr=>∃ (i:Nat) (A:Option Addr) (c:Nat),i≤t.size∧v53 = .int .i64 i∧v7 = .slice A (digs 4294967296 (numAt t i)).length c∧(digs 4294967296 (numAt t i)).length≤c∧Hid (RdAt wr .u32 A (digs 4294967296 (numAt t i)))∧Ob wr w.heap.size 23 #[.bool false,.string ⟨#[]⟩]∧Below w.heap.size w wr) (fun _ v53 _=>t.size - (intOf v53).toNat)
   case atStart=>exact ⟨0,none,0,by omega,rfl,by rw [numAt,zaj];rfl,by rw [numAt,zaj];exact Nat.le_refl _,Lib.hid (by rw [numAt,zaj];exact RdAt.nil _ _ _),t2,bl⟩
   case round =>
    clear t2 bl
    obtain ⟨i,A,c,hi,rfl,rfl,hc,hr,t2,bl⟩:=hrel
    have hlen:(digs 4294967296 (numAt t i)).length≤400:=Nat.le_trans (zgb _ (by decide) t i (fun j _=>HD.out.dig j)) (by omega)
    by_cases hil:i<t.size
    ·obtain ⟨c1,c2⟩:=HD.out i hil
     obtain ⟨dv,hdv⟩:∃ d,d=digAt t i:=⟨_,rfl⟩
     have hdt:digAt t i=t[i].toNat - 48:=by unfold digAt;rw [dif_pos hil]
     have hd9:dv≤9:=by omega
     have hlen2:=zov t i (by omega) (fun j _=>HD.out.dig j)
     have HMUL:=fun (A:Option Addr) c b W h1 h2=>Lib.hid (zoo A c b (numAt t i) W h1 h2 hlen)
     have HTRM:=fun b W h1=>Lib.hid (zmJ b dv W hd9 h1)
     have HADD:=fun (P:Option Addr) cp b W h1 h2 h3=>Lib.hid (zox P cp b (numAt t i * 10) dv (numAt t (i+1)) W hd9 h1 h2 h3 hlen2 (by rw [hdv];rfl))
     have q1:IntKind.u8.wrap (((t[i].toNat:Nat):Int) - 48)=(dv:Int):=by rw [show ((t[i].toNat:Nat):Int) - 48=(dv:Int) from by omega];exact wrb8 (by omega) (by omega)
     have q2:IntKind.u32.wrap (dv:Int)=(dv:Int):=wru32 (by omega) (by omega)
     have i1:(0:Int)≤(i:Int):=by omega
     have i2:(i:Int)<t.size:=by omega
     have HDV:=Lib.hid hdv
     clear hdv hdt
     go_wp2_with fail
     refine zgK (CB wr) 11 (.look 0 (.look 3 (.look 4 (.look 5 (.look 6 (.look 7 (.two 1 8 (.two 2 8 (.one 8 (.one 9 (.one 10 .nil))) (.one 2 (.one 9 (.one 10 .nil)))) (.one 1 (.one 2 (.one 9 (.one 10 .nil))))))))))) (by kernel_rfl) (by kernel_rfl) (CB.drew0 wr) ?_
     refine wpTr.eye _ (.slice A (digs 4294967296 (numAt t i)).length c) rfl (by kernel_rfl) (by intro w' hC;go_simp) ?_
     try simp only [Act.put,sIt,sIz,sIs]
     refine wpTr.eye _ (.string t) rfl (by kernel_rfl) (by intro w' hC;go_simp) ?_
     try simp only [Act.put,sIt,sIz,sIs]
     refine wpTr.eye _ (.int .i64 i) rfl (by kernel_rfl) (by intro w' hC;go_simp) ?_
     try simp only [Act.put,sIt,sIz,sIs]
     refine wpTr.eye _ (.int .u8 ((t[i]'hil).toNat:Nat)) rfl (by kernel_rfl) (by intro w' hC;go_simp) ?_
     try simp only [Act.put,sIt,sIz,sIs]
     refine wpTr.eye _ (.int .u8 (dv:Nat)) rfl (by kernel_rfl) (by intro w' hC;go_simp) ?_
     try simp only [Act.put,sIt,sIz,sIs]
     refine wpTr.eye _ (.int .u32 (dv:Nat)) rfl (by kernel_rfl) (by intro w' hC;go_simp) ?_
     try simp only [Act.put,sIt,sIz,sIs]
     clear q1 q2 i1 i2
     have hS:=CB.drew0 wr
     have hr:=Lib.hid (hr.out.below ((Below.refl wr.heap.size wr).drew))
     have t2:=t2.below ((Below.refl wr.heap.size wr).drew) t2.lt
     have bl:=bl.trans (Below.mono ((Below.refl wr.heap.size wr).drew) bl.size)
     generalize World.drew wr=V0 at hS hr t2 bl ⊢
     refine wpTr.do2 ?_ ?_
     focus
      refine wpTr.do1 _ rfl (fun K hK=>?_)
      go_simp
      have hS2:=hS.step ((Below.refl V0.heap.size V0).alloc (Nat.le_refl _) (.cells #[.int .u32 (10:Nat)] 144))
      refine hK.out _ _ hS2 ?_
      clear hK K
      have hT:=Lib.hid (zce (Ob.new V0 144 #[.int .u32 (10:Nat)]))
      have hA:=(Below.refl V0.heap.size V0).alloc (Nat.le_refl _) (.cells #[.int .u32 (10:Nat)] 144)
      have hr:=Lib.hid (hr.out.below hA)
      have t2:=t2.below hA t2.lt
      have bl:=bl.trans (Below.mono hA bl.size)
      have hS:=hS2
      clear hS2 hA
      generalize hbn:V0.heap.size=bhT at *
      clear hbn
      generalize World.alloc V0 _=V1 at *
      try simp only [Act.put,sIt,sIz,sIs]
      refine wpTr.do2 ?_ ?_
      focus
       refine wpTr.do1 _ rfl (fun K hK=>?_)
       go_simp
       refine (HMUL A c bhT V1 hr.out hT.out).out.mono ?_
       rintro e V2 ⟨P,cp,rfl,hcp,hP0,hb⟩
       have hS2:=hS.step hb
       dsimp only
       refine hK.out _ _ hS2 ?_
       clear hK K
       have t2:=t2.bl hb
       have bl:=bl.upb hb bl.size
       have hS:=hS2
       clear hS2 hb
       try simp only [Act.put,sIt,sIz,sIs]
       have hP:=Lib.hid hP0
       have hCP:=Lib.hid hcp
       clear hP0 hcp
       refine wpTr.do1 _ rfl (fun K hK=>?_)
       go_simp
       have hS2:=hS.step ((Below.refl V2.heap.size V2).alloc (Nat.le_refl _) (.cells #[.int .u32 (dv:Nat)] 144))
       refine hK.out _ _ hS2 ?_
       clear hK K
       have hD:=Lib.hid (zce (Ob.new V2 144 #[.int .u32 (dv:Nat)]))
       have hA:=(Below.refl V2.heap.size V2).alloc (Nat.le_refl _) (.cells #[.int .u32 (dv:Nat)] 144)
       have hP:=Lib.hid (hP.out.below hA)
       have t2:=t2.below hA t2.lt
       have bl:=bl.trans (Below.mono hA bl.size)
       have hS:=hS2
       clear hS2 hA
       generalize hbn:V2.heap.size=bhD at *
       clear hbn
       generalize World.alloc V2 _=V3 at *
       try simp only [Act.put,sIt,sIz,sIs]
       refine wpTr.do1 _ rfl (fun K hK=>?_)
       go_simp
       refine (HTRM bhD V3 hD.out).out.mono ?_
       rintro e V4 ⟨rfl,hb⟩
       have hS2:=hS.step hb
       dsimp only
       refine hK.out _ _ hS2 ?_
       clear hK K
       have hP:=Lib.hid (hP.out.below hb)
       have hD:=Lib.hid (hD.out.below hb)
       have t2:=t2.bl hb
       have bl:=bl.upb hb bl.size
       have hS:=hS2
       clear hS2 hb
       try simp only [Act.put,sIt,sIz,sIs]
       refine wpTr.do1 _ rfl (fun K hK=>?_)
       go_simp
       refine (HADD P cp bhD V4 hP.out hCP.out (Lib.hid hD.out).out).out.mono ?_
       rintro e V5 ⟨R,cr,rfl,hcr,hR0,hb⟩
       have hS2:=hS.step hb
       dsimp only
       refine hK.out _ _ hS2 ?_
       clear hK K
       have t2:=t2.bl hb
       have bl:=bl.upb hb bl.size
       have hS:=hS2
       clear hS2 hb
       try simp only [Act.put,sIt,sIz,sIs]
       have hR:=Lib.hid hR0
       clear hR0
       simp only [wpTr,List.drop_succ_cons,List.drop_zero]
       go_wp2_with fail
       refine NoPanic.normal ?_
       go_wp2_with fail
       go_roundw
       case rel=>exact ⟨i+1,R,cr,by omega,by go_num,rfl,hcr,hR,t2,bl⟩
       case measure=>simp [intOf];omega
      focus
       refine wpTr.do1 _ rfl (fun K hK=>?_)
       go_simp
       have hS2:=hS.step ((Below.refl V1.heap.size V1).alloc (Nat.le_refl _) (.cells #[.int .u32 (dv:Nat)] 144))
       refine hK.out _ _ hS2 ?_
       clear hK K
       have hD:=Lib.hid (zce (Ob.new V1 144 #[.int .u32 (dv:Nat)]))
       have hA:=(Below.refl V1.heap.size V1).alloc (Nat.le_refl _) (.cells #[.int .u32 (dv:Nat)] 144)
       have hr:=Lib.hid (hr.out.below hA)
       have hT:=Lib.hid (hT.out.below hA)
       have t2:=t2.below hA t2.lt
       have bl:=bl.trans (Below.mono hA bl.size)
       have hS:=hS2
       clear hS2 hA
       generalize hbn:V1.heap.size=bhD at *
       clear hbn
       generalize World.alloc V1 _=V6 at *
       try simp only [Act.put,sIt,sIz,sIs]
       refine wpTr.do1 _ rfl (fun K hK=>?_)
       go_simp
       refine (HMUL A c bhT V6 hr.out hT.out).out.mono ?_
       rintro e V7 ⟨P,cp,rfl,hcp,hP0,hb⟩
       have hS2:=hS.step hb
       dsimp only
       refine hK.out _ _ hS2 ?_
       clear hK K
       have hD:=Lib.hid (hD.out.below hb)
       have t2:=t2.bl hb
       have bl:=bl.upb hb bl.size
       have hS:=hS2
       clear hS2 hb
       try simp only [Act.put,sIt,sIz,sIs]
       have hP:=Lib.hid hP0
       have hCP:=Lib.hid hcp
       clear hP0 hcp
       refine wpTr.do1 _ rfl (fun K hK=>?_)
       go_simp
       refine (HTRM bhD V7 hD.out).out.mono ?_
       rintro e V8 ⟨rfl,hb⟩
       have hS2:=hS.step hb
       dsimp only
       refine hK.out _ _ hS2 ?_
       clear hK K
       have hP:=Lib.hid (hP.out.below hb)
       have hD:=Lib.hid (hD.out.below hb)
       have t2:=t2.bl hb
       have bl:=bl.upb hb bl.size
       have hS:=hS2
       clear hS2 hb
       try simp only [Act.put,sIt,sIz,sIs]
       refine wpTr.do1 _ rfl (fun K hK=>?_)
       go_simp
       refine (HADD P cp bhD V8 hP.out hCP.out (Lib.hid hD.out).out).out.mono ?_
       rintro e V9 ⟨R,cr,rfl,hcr,hR0,hb⟩
       have hS2:=hS.step hb
       dsimp only
       refine hK.out _ _ hS2 ?_
       clear hK K
       have t2:=t2.bl hb
       have bl:=bl.upb hb bl.size
       have hS:=hS2
       clear hS2 hb
       try simp only [Act.put,sIt,sIz,sIs]
       have hR:=Lib.hid hR0
       clear hR0
       simp only [wpTr,List.drop_succ_cons,List.drop_zero]
       go_wp2_with fail
       refine NoPanic.normal ?_
       go_wp2_with fail
       go_roundw
       case rel=>exact ⟨i+1,R,cr,by omega,by go_num,rfl,hcr,hR,t2,bl⟩
       case measure=>simp [intOf];omega
     focus
      refine wpTr.do1 _ rfl (fun K hK=>?_)
      go_simp
      have hS2:=hS.step ((Below.refl V0.heap.size V0).alloc (Nat.le_refl _) (.cells #[.int .u32 (dv:Nat)] 144))
      refine hK.out _ _ hS2 ?_
      clear hK K
      have hD:=Lib.hid (zce (Ob.new V0 144 #[.int .u32 (dv:Nat)]))
      have hA:=(Below.refl V0.heap.size V0).alloc (Nat.le_refl _) (.cells #[.int .u32 (dv:Nat)] 144)
      have hr:=Lib.hid (hr.out.below hA)
      have t2:=t2.below hA t2.lt
      have bl:=bl.trans (Below.mono hA bl.size)
      have hS:=hS2
      clear hS2 hA
      generalize hbn:V0.heap.size=bhD at *
      clear hbn
      generalize World.alloc V0 _=V10 at *
      try simp only [Act.put,sIt,sIz,sIs]
      refine wpTr.do1 _ rfl (fun K hK=>?_)
      go_simp
      have hS2:=hS.step ((Below.refl V10.heap.size V10).alloc (Nat.le_refl _) (.cells #[.int .u32 (10:Nat)] 144))
      refine hK.out _ _ hS2 ?_
      clear hK K
      have hT:=Lib.hid (zce (Ob.new V10 144 #[.int .u32 (10:Nat)]))
      have hA:=(Below.refl V10.heap.size V10).alloc (Nat.le_refl _) (.cells #[.int .u32 (10:Nat)] 144)
      have hr:=Lib.hid (hr.out.below hA)
      have hD:=Lib.hid (hD.out.below hA)
      have t2:=t2.below hA t2.lt
      have bl:=bl.trans (Below.mono hA bl.size)
      have hS:=hS2
      clear hS2 hA
      generalize hbn:V10.heap.size=bhT at *
      clear hbn
      generalize World.alloc V10 _=V11 at *
      try simp only [Act.put,sIt,sIz,sIs]
      refine wpTr.do1 _ rfl (fun K hK=>?_)
      go_simp
      refine (HMUL A c bhT V11 hr.out hT.out).out.mono ?_
      rintro e V12 ⟨P,cp,rfl,hcp,hP0,hb⟩
      have hS2:=hS.step hb
      dsimp only
      refine hK.out _ _ hS2 ?_
      clear hK K
      have hD:=Lib.hid (hD.out.below hb)
      have t2:=t2.bl hb
      have bl:=bl.upb hb bl.size
      have hS:=hS2
      clear hS2 hb
      try simp only [Act.put,sIt,sIz,sIs]
      have hP:=Lib.hid hP0
      have hCP:=Lib.hid hcp
      clear hP0 hcp
      refine wpTr.do1 _ rfl (fun K hK=>?_)
      go_simp
      refine (HTRM bhD V12 hD.out).out.mono ?_
      rintro e V13 ⟨rfl,hb⟩
      have hS2:=hS.step hb
      dsimp only
      refine hK.out _ _ hS2 ?_
      clear hK K
      have hP:=Lib.hid (hP.out.below hb)
      have hD:=Lib.hid (hD.out.below hb)
      have t2:=t2.bl hb
      have bl:=bl.upb hb bl.size
      have hS:=hS2
      clear hS2 hb
      try simp only [Act.put,sIt,sIz,sIs]
      refine wpTr.do1 _ rfl (fun K hK=>?_)
      go_simp
      refine (HADD P cp bhD V13 hP.out hCP.out (Lib.hid hD.out).out).out.mono ?_
      rintro e V14 ⟨R,cr,rfl,hcr,hR0,hb⟩
      have hS2:=hS.step hb
      dsimp only
      refine hK.out _ _ hS2 ?_
      clear hK K
      have t2:=t2.bl hb
      have bl:=bl.upb hb bl.size
      have hS:=hS2
      clear hS2 hb
      try simp only [Act.put,sIt,sIz,sIs]
      have hR:=Lib.hid hR0
      clear hR0
      simp only [wpTr,List.drop_succ_cons,List.drop_zero]
      go_wp2_with fail
      refine NoPanic.normal ?_
      go_wp2_with fail
      go_roundw
      case rel=>exact ⟨i+1,R,cr,by omega,by go_num,rfl,hcr,hR,t2,bl⟩
      case measure=>simp [intOf];omega
    ·obtain rfl:i=t.size:=by omega
     have HW:=Lib.hid (za3 A c (numAt t t.size) neg wr hr.out (by omega))
     go_wp2_with fail
     refine (HW.out).mono ?_
     rintro e W1 ⟨rfl,hb⟩
     have t2:=t2.bl hb
     have bl:=bl.upb hb bl.size
     clear hb
     try simp only [ptr,Act.put,sIt,sIz,sIs]
     have fr2:=t2.free
     obtain ⟨z2_0,z2_1⟩:=t2.cells2
     go_wp2_with fail
     clear fr2 z2_0 z2_1
     have t2:=t2.set2 (.bool (sg (sgnd neg (numAt t t.size)))) (.string (mg (sgnd neg (numAt t t.size))))
     have bl:=(zae (zae bl (show w.heap.size≤w.heap.size by omega) 0 (.bool (sg (sgnd neg (numAt t t.size))))) (show w.heap.size≤w.heap.size by omega) 1 (.string (mg (sgnd neg (numAt t t.size)))))
     generalize World.setCell (World.setCell W1 _ _) _ _=W2 at t2 bl ⊢
     obtain ⟨r2_0,r2_1⟩:=t2.cells2
     exact bodyPost_ret (v:=.tuple #[vI (sgnd neg (numAt t t.size)),.int .i64 0]) (by simp [results,Tryz.results201,go_sem,r2_0,r2_1]) rfl (⟨rfl,bl⟩)
theorem zjX (s t:ByteArray) (neg:Bool) (w:World) (h0:0<t.size) (h48:(t[0]'h0).toNat=48) (h1:¬ 1<t.size) (hd:AllD t) (hl:t.size≤400)
  (HC:∀ W,Calls Tryz.prog 140 #[.string s,.string ⟨#[45]⟩] W (fun e w'=>e = .returned (.tuple #[.string t,.bool false])∧Below W.heap.size W w')) :
  Calls Tryz.prog 201 #[.string s] w (RetIE (sgnd false (numAt t t.size)) 0 w):=by
 replace HC:=fun W=>Lib.hid (HC W)
 have HD:=Lib.hid hd
 clear hd
 have hl':¬ (400:Int)<t.size:=by omega
 obtain ⟨e1,e2⟩:=zaZ h0
 have hs':¬ (1:Int)<t.size:=by omega
 go_enter Tryz.func201,Tryz.ntmps201
 go_wp2_with fail
 have t2:=Ob.new (w) 23 #[.bool false,.string ⟨#[]⟩]
 have bl:=((Below.refl w.heap.size w).alloc (Nat.le_refl _) (.cells #[.bool false,.string ⟨#[]⟩] 23))
 try simp only [World.size_alloc] at t2
 generalize World.alloc w _=W1 at t2 bl ⊢
 refine ((HC W1).out).mono ?_
 rintro e W2 ⟨rfl,hb⟩
 have t2:=t2.bl hb
 have bl:=bl.upb hb bl.size
 clear hb
 go_wp2_with fail
 clear HC h48
 go_loopw [32] (fun v32 wr=>∃ i:Nat,i≤t.size∧v32 = .int .i64 i∧Ob wr w.heap.size 23 #[.bool false,.string ⟨#[]⟩]∧Below w.heap.size w wr) (fun v32 _=>t.size - (intOf v32).toNat)
 case atStart=>exact ⟨0,by omega,rfl,t2,bl⟩
 case round =>
  clear t2 bl
  obtain ⟨i,hi,rfl,t2,bl⟩:=hrel
  by_cases hil:i<t.size
  ·obtain ⟨c1,c2⟩:=HD.out i hil
   have c1':¬ ((t[i].toNat:Nat):Int)<48:=by omega
   have c2':¬ (57:Int)<((t[i].toNat:Nat):Int):=by omega
   go_wp2_with fail
   go_roundw
   case rel=>exact ⟨i+1,by omega,by go_num,t2,bl⟩
   case measure=>simp [intOf];omega
  ·obtain rfl:i=t.size:=by omega
   go_wp2_with fail
   go_loopw [7,53] (fun v7 v53 wr=>∃ (i:Nat) (A:Option Addr) (c:Nat),i≤t.size∧v53 = .int .i64 i∧v7 = .slice A (digs 4294967296 (numAt t i)).length c∧(digs 4294967296 (numAt t i)).length≤c∧Hid (RdAt wr .u32 A (digs 4294967296 (numAt t i)))∧Ob wr w.heap.size 23 #[.bool false,.string ⟨#[]⟩]∧Below w.heap.size w wr) (fun _ v53 _=>t.size - (intOf v53).toNat)
   case atStart=>exact ⟨0,none,0,by omega,rfl,by rw [numAt,zaj];rfl,by rw [numAt,zaj];exact Nat.le_refl _,Lib.hid (by rw [numAt,zaj];exact RdAt.nil _ _ _),t2,bl⟩
   case round =>
    clear t2 bl
    obtain ⟨i,A,c,hi,rfl,rfl,hc,hr,t2,bl⟩:=hrel
    have hlen:(digs 4294967296 (numAt t i)).length≤400:=Nat.le_trans (zgb _ (by decide) t i (fun j _=>HD.out.dig j)) (by omega)
    by_cases hil:i<t.size
    ·obtain ⟨c1,c2⟩:=HD.out i hil
     obtain ⟨dv,hdv⟩:∃ d,d=digAt t i:=⟨_,rfl⟩
     have hdt:digAt t i=t[i].toNat - 48:=by unfold digAt;rw [dif_pos hil]
     have hd9:dv≤9:=by omega
     have hlen2:=zov t i (by omega) (fun j _=>HD.out.dig j)
     have HMUL:=fun (A:Option Addr) c b W h1 h2=>Lib.hid (zoo A c b (numAt t i) W h1 h2 hlen)
     have HTRM:=fun b W h1=>Lib.hid (zmJ b dv W hd9 h1)
     have HADD:=fun (P:Option Addr) cp b W h1 h2 h3=>Lib.hid (zox P cp b (numAt t i * 10) dv (numAt t (i+1)) W hd9 h1 h2 h3 hlen2 (by rw [hdv];rfl))
     have q1:IntKind.u8.wrap (((t[i].toNat:Nat):Int) - 48)=(dv:Int):=by rw [show ((t[i].toNat:Nat):Int) - 48=(dv:Int) from by omega];exact wrb8 (by omega) (by omega)
     have q2:IntKind.u32.wrap (dv:Int)=(dv:Int):=wru32 (by omega) (by omega)
     have i1:(0:Int)≤(i:Int):=by omega
     have i2:(i:Int)<t.size:=by omega
     have HDV:=Lib.hid hdv
     clear hdv hdt
     go_wp2_with fail
     refine zgK (CB wr) 11 (.look 0 (.look 3 (.look 4 (.look 5 (.look 6 (.look 7 (.two 1 8 (.two 2 8 (.one 8 (.one 9 (.one 10 .nil))) (.one 2 (.one 9 (.one 10 .nil)))) (.one 1 (.one 2 (.one 9 (.one 10 .nil))))))))))) (by kernel_rfl) (by kernel_rfl) (CB.drew0 wr) ?_
     refine wpTr.eye _ (.slice A (digs 4294967296 (numAt t i)).length c) rfl (by kernel_rfl) (by intro w' hC;go_simp) ?_
     try simp only [Act.put,sIt,sIz,sIs]
     refine wpTr.eye _ (.string t) rfl (by kernel_rfl) (by intro w' hC;go_simp) ?_
     try simp only [Act.put,sIt,sIz,sIs]
     refine wpTr.eye _ (.int .i64 i) rfl (by kernel_rfl) (by intro w' hC;go_simp) ?_
     try simp only [Act.put,sIt,sIz,sIs]
     refine wpTr.eye _ (.int .u8 ((t[i]'hil).toNat:Nat)) rfl (by kernel_rfl) (by intro w' hC;go_simp) ?_
     try simp only [Act.put,sIt,sIz,sIs]
     refine wpTr.eye _ (.int .u8 (dv:Nat)) rfl (by kernel_rfl) (by intro w' hC;go_simp) ?_
     try simp only [Act.put,sIt,sIz,sIs]
     refine wpTr.eye _ (.int .u32 (dv:Nat)) rfl (by kernel_rfl) (by intro w' hC;go_simp) ?_
     try simp only [Act.put,sIt,sIz,sIs]
     clear q1 q2 i1 i2
     have hS:=CB.drew0 wr
     have hr:=Lib.hid (hr.out.below ((Below.refl wr.heap.size wr).drew))
     have t2:=t2.below ((Below.refl wr.heap.size wr).drew) t2.lt
     have bl:=bl.trans (Below.mono ((Below.refl wr.heap.size wr).drew) bl.size)
     generalize World.drew wr=V0 at hS hr t2 bl ⊢
     refine wpTr.do2 ?_ ?_
     focus
      refine wpTr.do1 _ rfl (fun K hK=>?_)
      go_simp
      have hS2:=hS.step ((Below.refl V0.heap.size V0).alloc (Nat.le_refl _) (.cells #[.int .u32 (10:Nat)] 144))
      refine hK.out _ _ hS2 ?_
      clear hK K
      have hT:=Lib.hid (zce (Ob.new V0 144 #[.int .u32 (10:Nat)]))
      have hA:=(Below.refl V0.heap.size V0).alloc (Nat.le_refl _) (.cells #[.int .u32 (10:Nat)] 144)
      have hr:=Lib.hid (hr.out.below hA)
      have t2:=t2.below hA t2.lt
      have bl:=bl.trans (Below.mono hA bl.size)
      have hS:=hS2
      clear hS2 hA
      generalize hbn:V0.heap.size=bhT at *
      clear hbn
      generalize World.alloc V0 _=V1 at *
      try simp only [Act.put,sIt,sIz,sIs]
      refine wpTr.do2 ?_ ?_
      focus
       refine wpTr.do1 _ rfl (fun K hK=>?_)
       go_simp
       refine (HMUL A c bhT V1 hr.out hT.out).out.mono ?_
       rintro e V2 ⟨P,cp,rfl,hcp,hP0,hb⟩
       have hS2:=hS.step hb
       dsimp only
       refine hK.out _ _ hS2 ?_
       clear hK K
       have t2:=t2.bl hb
       have bl:=bl.upb hb bl.size
       have hS:=hS2
       clear hS2 hb
       try simp only [Act.put,sIt,sIz,sIs]
       have hP:=Lib.hid hP0
       have hCP:=Lib.hid hcp
       clear hP0 hcp
       refine wpTr.do1 _ rfl (fun K hK=>?_)
       go_simp
       have hS2:=hS.step ((Below.refl V2.heap.size V2).alloc (Nat.le_refl _) (.cells #[.int .u32 (dv:Nat)] 144))
       refine hK.out _ _ hS2 ?_
       clear hK K
       have hD:=Lib.hid (zce (Ob.new V2 144 #[.int .u32 (dv:Nat)]))
       have hA:=(Below.refl V2.heap.size V2).alloc (Nat.le_refl _) (.cells #[.int .u32 (dv:Nat)] 144)
       have hP:=Lib.hid (hP.out.below hA)
       have t2:=t2.below hA t2.lt
       have bl:=bl.trans (Below.mono hA bl.size)
       have hS:=hS2
       clear hS2 hA
       generalize hbn:V2.heap.size=bhD at *
       clear hbn
       generalize World.alloc V2 _=V3 at *
       try simp only [Act.put,sIt,sIz,sIs]
       refine wpTr.do1 _ rfl (fun K hK=>?_)
       go_simp
       refine (HTRM bhD V3 hD.out).out.mono ?_
       rintro e V4 ⟨rfl,hb⟩
       have hS2:=hS.step hb
       dsimp only
       refine hK.out _ _ hS2 ?_
       clear hK K
       have hP:=Lib.hid (hP.out.below hb)
       have hD:=Lib.hid (hD.out.below hb)
       have t2:=t2.bl hb
       have bl:=bl.upb hb bl.size
       have hS:=hS2
       clear hS2 hb
       try simp only [Act.put,sIt,sIz,sIs]
       refine wpTr.do1 _ rfl (fun K hK=>?_)
       go_simp
       refine (HADD P cp bhD V4 hP.out hCP.out (Lib.hid hD.out).out).out.mono ?_
       rintro e V5 ⟨R,cr,rfl,hcr,hR0,hb⟩
       have hS2:=hS.step hb
       dsimp only
       refine hK.out _ _ hS2 ?_
       clear hK K
       have t2:=t2.bl hb
       have bl:=bl.upb hb bl.size
       have hS:=hS2
       clear hS2 hb
       try simp only [Act.put,sIt,sIz,sIs]
       have hR:=Lib.hid hR0
       clear hR0
       simp only [wpTr,List.drop_succ_cons,List.drop_zero]
       go_wp2_with fail
       refine NoPanic.normal ?_
       go_wp2_with fail
       go_roundw
       case rel=>exact ⟨i+1,R,cr,by omega,by go_num,rfl,hcr,hR,t2,bl⟩
       case measure=>simp [intOf];omega
      focus
       refine wpTr.do1 _ rfl (fun K hK=>?_)
       go_simp
       have hS2:=hS.step ((Below.refl V1.heap.size V1).alloc (Nat.le_refl _) (.cells #[.int .u32 (dv:Nat)] 144))
       refine hK.out _ _ hS2 ?_
       clear hK K
       have hD:=Lib.hid (zce (Ob.new V1 144 #[.int .u32 (dv:Nat)]))
       have hA:=(Below.refl V1.heap.size V1).alloc (Nat.le_refl _) (.cells #[.int .u32 (dv:Nat)] 144)
       have hr:=Lib.hid (hr.out.below hA)
       have hT:=Lib.hid (hT.out.below hA)
       have t2:=t2.below hA t2.lt
       have bl:=bl.trans (Below.mono hA bl.size)
       have hS:=hS2
       clear hS2 hA
       generalize hbn:V1.heap.size=bhD at *
       clear hbn
       generalize World.alloc V1 _=V6 at *
       try simp only [Act.put,sIt,sIz,sIs]
       refine wpTr.do1 _ rfl (fun K hK=>?_)
       go_simp
       refine (HMUL A c bhT V6 hr.out hT.out).out.mono ?_
       rintro e V7 ⟨P,cp,rfl,hcp,hP0,hb⟩
       have hS2:=hS.step hb
       dsimp only
       refine hK.out _ _ hS2 ?_
       clear hK K
       have hD:=Lib.hid (hD.out.below hb)
       have t2:=t2.bl hb
       have bl:=bl.upb hb bl.size
       have hS:=hS2
       clear hS2 hb
       try simp only [Act.put,sIt,sIz,sIs]
       have hP:=Lib.hid hP0
       have hCP:=Lib.hid hcp
       clear hP0 hcp
       refine wpTr.do1 _ rfl (fun K hK=>?_)
       go_simp
       refine (HTRM bhD V7 hD.out).out.mono ?_
       rintro e V8 ⟨rfl,hb⟩
       have hS2:=hS.step hb
       dsimp only
       refine hK.out _ _ hS2 ?_
       clear hK K
       have hP:=Lib.hid (hP.out.below hb)
       have hD:=Lib.hid (hD.out.below hb)
       have t2:=t2.bl hb
       have bl:=bl.upb hb bl.size
       have hS:=hS2
       clear hS2 hb
       try simp only [Act.put,sIt,sIz,sIs]
       refine wpTr.do1 _ rfl (fun K hK=>?_)
       go_simp
       refine (HADD P cp bhD V8 hP.out hCP.out (Lib.hid hD.out).out).out.mono ?_
       rintro e V9 ⟨R,cr,rfl,hcr,hR0,hb⟩
       have hS2:=hS.step hb
       dsimp only
       refine hK.out _ _ hS2 ?_
       clear hK K
       have t2:=t2.bl hb
       have bl:=bl.upb hb bl.size
       have hS:=hS2
       clear hS2 hb
       try simp only [Act.put,sIt,sIz,sIs]
       have hR:=Lib.hid hR0
       clear hR0
       simp only [wpTr,List.drop_succ_cons,List.drop_zero]
       go_wp2_with fail
       refine NoPanic.normal ?_
       go_wp2_with fail
       go_roundw
       case rel=>exact ⟨i+1,R,cr,by omega,by go_num,rfl,hcr,hR,t2,bl⟩
       case measure=>simp [intOf];omega
     focus
      refine wpTr.do1 _ rfl (fun K hK=>?_)
      go_simp
      have hS2:=hS.step ((Below.refl V0.heap.size V0).alloc (Nat.le_refl _) (.cells #[.int .u32 (dv:Nat)] 144))
      refine hK.out _ _ hS2 ?_
      clear hK K
      have hD:=Lib.hid (zce (Ob.new V0 144 #[.int .u32 (dv:Nat)]))
      have hA:=(Below.refl V0.heap.size V0).alloc (Nat.le_refl _) (.cells #[.int .u32 (dv:Nat)] 144)
      have hr:=Lib.hid (hr.out.below hA)
      have t2:=t2.below hA t2.lt
      have bl:=bl.trans (Below.mono hA bl.size)
      have hS:=hS2
      clear hS2 hA
      generalize hbn:V0.heap.size=bhD at *
      clear hbn
      generalize World.alloc V0 _=V10 at *
      try simp only [Act.put,sIt,sIz,sIs]
      refine wpTr.do1 _ rfl (fun K hK=>?_)
      go_simp
      have hS2:=hS.step ((Below.refl V10.heap.size V10).alloc (Nat.le_refl _) (.cells #[.int .u32 (10:Nat)] 144))
      refine hK.out _ _ hS2 ?_
      clear hK K
      have hT:=Lib.hid (zce (Ob.new V10 144 #[.int .u32 (10:Nat)]))
      have hA:=(Below.refl V10.heap.size V10).alloc (Nat.le_refl _) (.cells #[.int .u32 (10:Nat)] 144)
      have hr:=Lib.hid (hr.out.below hA)
      have hD:=Lib.hid (hD.out.below hA)
      have t2:=t2.below hA t2.lt
      have bl:=bl.trans (Below.mono hA bl.size)
      have hS:=hS2
      clear hS2 hA
      generalize hbn:V10.heap.size=bhT at *
      clear hbn
      generalize World.alloc V10 _=V11 at *
      try simp only [Act.put,sIt,sIz,sIs]
      refine wpTr.do1 _ rfl (fun K hK=>?_)
      go_simp
      refine (HMUL A c bhT V11 hr.out hT.out).out.mono ?_
      rintro e V12 ⟨P,cp,rfl,hcp,hP0,hb⟩
      have hS2:=hS.step hb
      dsimp only
      refine hK.out _ _ hS2 ?_
      clear hK K
      have hD:=Lib.hid (hD.out.below hb)
      have t2:=t2.bl hb
      have bl:=bl.upb hb bl.size
      have hS:=hS2
      clear hS2 hb
      try simp only [Act.put,sIt,sIz,sIs]
      have hP:=Lib.hid hP0
      have hCP:=Lib.hid hcp
      clear hP0 hcp
      refine wpTr.do1 _ rfl (fun K hK=>?_)
      go_simp
      refine (HTRM bhD V12 hD.out).out.mono ?_
      rintro e V13 ⟨rfl,hb⟩
      have hS2:=hS.step hb
      dsimp only
      refine hK.out _ _ hS2 ?_
      clear hK K
      have hP:=Lib.hid (hP.out.below hb)
      have hD:=Lib.hid (hD.out.below hb)
      have t2:=t2.bl hb
      have bl:=bl.upb hb bl.size
      have hS:=hS2
      clear hS2 hb
      try simp only [Act.put,sIt,sIz,sIs]
      refine wpTr.do1 _ rfl (fun K hK=>?_)
      go_simp
      refine (HADD P cp bhD V13 hP.out hCP.out (Lib.hid hD.out).out).out.mono ?_
      rintro e V14 ⟨R,cr,rfl,hcr,hR0,hb⟩
      have hS2:=hS.step hb
      dsimp only
      refine hK.out _ _ hS2 ?_
      clear hK K
      have t2:=t2.bl hb
      have bl:=bl.upb hb bl.size
      have hS:=hS2
      clear hS2 hb
      try simp only [Act.put,sIt,sIz,sIs]
      have hR:=Lib.hid hR0
      clear hR0
      simp only [wpTr,List.drop_succ_cons,List.drop_zero]
      go_wp2_with fail
      refine NoPanic.normal ?_
      go_wp2_with fail
      go_roundw
      case rel=>exact ⟨i+1,R,cr,by omega,by go_num,rfl,hcr,hR,t2,bl⟩
      case measure=>simp [intOf];omega
    ·obtain rfl:i=t.size:=by omega
     have HW:=Lib.hid (za3 A c (numAt t t.size) false wr hr.out (by omega))
     go_wp2_with fail
     refine (HW.out).mono ?_
     rintro e W1 ⟨rfl,hb⟩
     have t2:=t2.bl hb
     have bl:=bl.upb hb bl.size
     clear hb
     try simp only [ptr,Act.put,sIt,sIz,sIs]
     have fr2:=t2.free
     obtain ⟨z2_0,z2_1⟩:=t2.cells2
     go_wp2_with fail
     clear fr2 z2_0 z2_1
     have t2:=t2.set2 (.bool (sg (sgnd false (numAt t t.size)))) (.string (mg (sgnd false (numAt t t.size))))
     have bl:=(zae (zae bl (show w.heap.size≤w.heap.size by omega) 0 (.bool (sg (sgnd false (numAt t t.size))))) (show w.heap.size≤w.heap.size by omega) 1 (.string (mg (sgnd false (numAt t t.size)))))
     generalize World.setCell (World.setCell W1 _ _) _ _=W2 at t2 bl ⊢
     obtain ⟨r2_0,r2_1⟩:=t2.cells2
     exact bodyPost_ret (v:=.tuple #[vI (sgnd false (numAt t t.size)),.int .i64 0]) (by simp [results,Tryz.results201,go_sem,r2_0,r2_1]) rfl (⟨rfl,bl⟩)
def parseN (t:ByteArray) (neg:Bool) (e:Int):Int:=if e=0 then sgnd neg (numAt t t.size) else 0
open Classical in
noncomputable def parseE (t:ByteArray) (neg:Bool):Int:=if shapeB neg t=true∧AllD t then (if t.size≤400 then 0 else 3) else 4
theorem zfU (s t:ByteArray) (neg:Bool) (w:World) (hsz:t.size≤1000000000)
  (HC:∀ W,Calls Tryz.prog 140 #[.string s,.string ⟨#[45]⟩] W (fun e w'=>e = .returned (.tuple #[.string t,.bool neg])∧Below W.heap.size W w')) :
  Calls Tryz.prog 201 #[.string s] w (RetIE (parseN t neg (parseE t neg)) (parseE t neg) w):=by
 cases hs:shapeB neg t with
 | false =>
  have e:parseE t neg=4:=by unfold parseE;rw [if_neg (by rw [hs];simp)]
  rw [e,parseN,if_neg (by decide)]
  exact zj1 s t neg w hs HC
 | true =>
  have hs':=hs
  unfold shapeB at hs'
  have h0:0<t.size:=by
   by_cases h0:0<t.size
   ·exact h0
   ·rw [dif_neg h0] at hs';cases hs'
  rw [dif_pos h0] at hs'
  by_cases hd:AllD t
  ·by_cases hl:t.size≤400
   ·have e:parseE t neg=0:=by unfold parseE;rw [if_pos ⟨hs,hd⟩,if_pos hl]
    rw [e,parseN,if_pos rfl]
    by_cases h48:t[0].toNat=48
    ·have h1:¬ 1<t.size:=by intro h1;simp [h48,h1] at hs'
     obtain rfl:neg=false:=by
      cases neg
      ·rfl
      ·simp [h48] at hs'
     exact zjX s t false w h0 h48 h1 hd hl HC
    ·exact zjp s t neg w h0 h48 hd hl HC
   ·have e:parseE t neg=3:=by unfold parseE;rw [if_pos ⟨hs,hd⟩,if_neg hl]
    rw [e,parseN,if_neg (by decide)]
    refine ziG s t neg w h0 ?_ hd (by omega) hsz HC
    intro h48
    have h1:1<t.size:=by omega
    simp [h48,h1] at hs'
  ·have e:parseE t neg=4:=by unfold parseE;rw [if_neg (fun h=>hd h.2)]
   rw [e,parseN,if_neg (by decide)]
   refine zj3 s t neg w h0 ?_ hd hsz HC
   intro h48
   have h1:¬ 1<t.size:=by intro h1;simp [h48,h1] at hs'
   refine hd (fun j hj=>?_)
   obtain rfl:j=0:=by omega
   omega

open Go Go.RowKit
theorem zbC {P:Program} {f:FuncId} {fn:Func} {c:Code} {w:World} {v:Value} (hm:P.follows .mixedOrders=true) (hf:P.funcs[f]?=some fn) (hb:fn.body=some c) (b:Nat) (t:TypeId) (cs cs':Array Value) (hB:Hc w b t cs) (args:List Value) (hsz:args.length+1≤fn.ntmps)
  (lk:List (Nat × Nat)) (ds:List Dec) (ps:List (Item P ⟨w,[b]⟩))
  (h:∀ r,vmL (vmF' lk fn c ((0,(.pointer (some ⟨r 0,0,none⟩),1)) :: env0 1 args) [(0,(t,cs))] 1 r ds ps (fun _=>v) (fun _=>[(0,(t,cs'))]))=vmR (vmF' lk fn c ((0,(.pointer (some ⟨r 0,0,none⟩),1)) :: env0 1 args) [(0,(t,cs))] 1 r ds ps (fun _=>v) (fun _=>[(0,(t,cs'))])):=by intro r;kernel_rfl)
  (h2:∀ r,vmSL (vmF' lk fn c ((0,(.pointer (some ⟨r 0,0,none⟩),1)) :: env0 1 args) [(0,(t,cs))] 1 r ds ps (fun _=>v) (fun _=>[(0,(t,cs'))]))=vmSR (vmF' lk fn c ((0,(.pointer (some ⟨r 0,0,none⟩),1)) :: env0 1 args) [(0,(t,cs))] 1 r ds ps (fun _=>v) (fun _=>[(0,(t,cs'))])):=by intro r;kernel_rfl) :
  Calls P f ((.pointer (some ⟨b,0,none⟩) :: args:List Value)).toArray w (fun e w'=>e = .returned v∧Hc w' b t cs'∧Chg [b] w w'):=by
 have hE:∀ r:Nat→Nat,(∀ k,k<1→r k=b)→((0,(.pointer (some ⟨b,0,none⟩),1)) :: env0 1 args:Env)=(0,(.pointer (some ⟨r 0,0,none⟩),1)) :: env0 1 args:=fun r hr=>by rw [hr 0 (by omega)]
 have:=zkI (X:=⟨w,[b]⟩) hm hf hb lk ((0,(.pointer (some ⟨b,0,none⟩),1)) :: env0 1 args) [(0,(t,cs))] 1 (fun _=>b) ((.pointer (some ⟨b,0,none⟩) :: args:List Value)).toArray (fun k=>?_) (by simpa using hsz) (zab kr)
  ⟨Chg.refl _ _,fun k x h=>?_,fun k k' x x' h h' _=>?_⟩ ds ps (fun _=>v) (fun _=>[(0,(t,cs'))]) (fun r hr=>by rw [hE r hr];exact h r) (fun r hr=>by rw [hE r hr];exact h2 r)
 ·refine this.mono ?_
  rintro e w' ⟨r,hr,he,hc,ho⟩
  have h0:=(ho _ List.mem_cons_self).1
  rw [hr 0 (by omega)] at h0
  exact ⟨he,h0,hc⟩
 ·rw [zdG]
  show envV ((0,(.pointer (some ⟨b,0,none⟩),0)) :: env0 1 args) k=_
  by_cases hk:0=k
  ·subst hk;rfl
  ·unfold envV
   rw [zaB _ _ hk,zaB _ _ hk]
 ·have:=zaL h
  simp only [List.mem_singleton,Prod.mk.injEq] at this
  obtain ⟨rfl,rfl⟩:=this
  exact ⟨hB,.inr (by simp)⟩
 ·have h1:=zaL h
  have h2:=zaL h'
  simp only [List.mem_singleton,Prod.mk.injEq] at h1 h2
  omega
def rdC (l:List UInt8) (e:Int):Array Value:=#[.string ⟨l.toArray⟩,.int .i64 e]
def RetRd (b:Nat) (v:Value) (l:List UInt8) (e:Int) (w:World) (r:Ending) (w':World):Prop:=r = .returned v∧Hc w' b 95 (rdC l e)∧Chg [b] w w'
theorem zas (b:Nat) (l:List UInt8) (p:ByteArray) (e:Int) (w:World) (hB:Hc w b 95 (rdC l e)):Calls Tryz.prog 112 #[.pointer (some ⟨b,0,none⟩),.string p] w (RetRd b (.bool (Lib.hasPrefix l p.data.toList)) (Lib.trimPrefix l p.data.toList) e w):=by
 have H:∀ w,Calls Tryz.prog 140 #[.string ⟨l.toArray⟩,.string p] w (RetV (.tuple #[.string ⟨(Lib.trimPrefix l p.data.toList).toArray⟩,.bool (Lib.hasPrefix l p.data.toList)]) w):=fun w=>(Tryz.strings_CutPrefix ⟨l.toArray⟩ p w).mono (fun e w' ⟨h1,h2⟩=>⟨h1,by rw [h2];exact Below.refl _ _⟩)
 generalize Lib.trimPrefix l p.data.toList=l' at *
 generalize Lib.hasPrefix l p.data.toList=bb at *
 exact zbC kr Tryz.func112 rfl b 95 (rdC l e) (rdC l' e) (hB) [.string p] nle [] [] [cV (H)]
theorem exD0 (b:Nat) (w:World) (hB:Hc w b 95 (rdC [49,47,52,114,50,43,49,47,52,114,54] 0)):Calls Tryz.prog 198 #[.pointer (some ⟨b,0,none⟩)] w (RetRd b (.string ⟨#[49]⟩) [47,52,114,50,43,49,47,52,114,54] 0 w):=by
 exact zbC kr Tryz.func198 rfl b 95 (rdC [49,47,52,114,50,43,49,47,52,114,54] 0) (rdC [47,52,114,50,43,49,47,52,114,54] 0) (hB) [] nle [] [.t,.t,.t,.t,.t,.t,.t,.t,.t,.t,.t,.t,.t,.t,.t,.t,.t,.t,.t,.t,.t,.t,.t,.t,.t,.f,.f,.f,.f,.f,.f,.f,.f,.f] []
theorem exD2 (b:Nat) (w:World) (hB:Hc w b 95 (rdC [52,114,50,43,49,47,52,114,54] 0)):Calls Tryz.prog 198 #[.pointer (some ⟨b,0,none⟩)] w (RetRd b (.string ⟨#[52]⟩) [114,50,43,49,47,52,114,54] 0 w):=by
 exact zbC kr Tryz.func198 rfl b 95 (rdC [52,114,50,43,49,47,52,114,54] 0) (rdC [114,50,43,49,47,52,114,54] 0) (hB) [] nle [] [.t,.t,.t,.t,.t,.t,.t,.t,.t,.t,.t,.t,.t,.t,.t,.t,.t,.t,.t,.t,.t,.t,.t,.t,.t,.t,.t,.t,.t,.t,.t,.t,.t,.f] []
theorem exD6 (b:Nat) (w:World) (hB:Hc w b 95 (rdC [49,47,52,114,54] 0)):Calls Tryz.prog 198 #[.pointer (some ⟨b,0,none⟩)] w (RetRd b (.string ⟨#[49]⟩) [47,52,114,54] 0 w):=by
 exact zbC kr Tryz.func198 rfl b 95 (rdC [49,47,52,114,54] 0) (rdC [47,52,114,54] 0) (hB) [] nle [] [.t,.t,.t,.t,.t,.t,.t,.t,.t,.t,.t,.t,.t,.t,.t,.t,.t,.t,.t,.t,.t,.t,.t,.t,.t,.f,.f,.f,.f,.f,.f,.f,.f,.f] []
theorem exD8 (b:Nat) (w:World) (hB:Hc w b 95 (rdC [52,114,54] 0)):Calls Tryz.prog 198 #[.pointer (some ⟨b,0,none⟩)] w (RetRd b (.string ⟨#[52]⟩) [114,54] 0 w):=by
 exact zbC kr Tryz.func198 rfl b 95 (rdC [52,114,54] 0) (rdC [114,54] 0) (hB) [] nle [] [.t,.t,.t,.t,.t,.t,.t,.t,.t,.t,.t,.t,.t,.t,.t,.t,.t,.t,.t,.t,.t,.t,.t,.t,.t,.t,.t,.t,.t,.t,.t,.t,.t,.f] []
theorem exP1 (w:World):Calls Tryz.prog 201 #[.string ⟨#[49]⟩] w (RetIE 1 0 w):=by
 have H:=zfU ⟨#[49]⟩ ⟨#[49]⟩ false w (by decide) (fun W=>(Tryz.strings_CutPrefix ⟨#[49]⟩ ⟨#[45]⟩ W).mono (by
  rintro e w' ⟨rfl,rfl⟩
  exact ⟨rfl,Below.refl _ _⟩))
 have e:parseE ⟨#[49]⟩ false=0:=by
  unfold parseE
  have hA:AllD ⟨#[49]⟩:=fun j hj=>by
   have:j=0:=by simpa [ByteArray.size] using hj
   subst this
   exact (by decide:48≤(49:UInt8).toNat∧(49:UInt8).toNat≤57)
  rw [if_pos ⟨by decide,hA⟩,if_pos (by decide)]
 have e2:parseN ⟨#[49]⟩ false 0=1:=by decide
 rwa [e,e2] at H
theorem exP4 (w:World):Calls Tryz.prog 201 #[.string ⟨#[52]⟩] w (RetIE 4 0 w):=by
 have H:=zfU ⟨#[52]⟩ ⟨#[52]⟩ false w (by decide) (fun W=>(Tryz.strings_CutPrefix ⟨#[52]⟩ ⟨#[45]⟩ W).mono (by
  rintro e w' ⟨rfl,rfl⟩
  exact ⟨rfl,Below.refl _ _⟩))
 have e:parseE ⟨#[52]⟩ false=0:=by
  unfold parseE
  have hA:AllD ⟨#[52]⟩:=fun j hj=>by
   have:j=0:=by simpa [ByteArray.size] using hj
   subst this
   exact (by decide:48≤(52:UInt8).toNat∧(52:UInt8).toNat≤57)
  rw [if_pos ⟨by decide,hA⟩,if_pos (by decide)]
 have e2:parseN ⟨#[52]⟩ false 0=4:=by decide
 rwa [e,e2] at H
theorem exI0 (b:Nat) (w:World) (hB:Hc w b 95 (rdC [49,47,52,114,50,43,49,47,52,114,54] 0)):Calls Tryz.prog 197 #[.pointer (some ⟨b,0,none⟩)] w (RetRd b (vI 1) [47,52,114,50,43,49,47,52,114,54] 0 w):=by
 have P:=fun w=>exP1 w
 exact zbC kr Tryz.func197 rfl b 95 (rdC [49,47,52,114,50,43,49,47,52,114,54] 0) (rdC [47,52,114,50,43,49,47,52,114,54] 0) (hB) [] nle [] [.f,.f,.f,.f,.f] [cU 0 95 (rdC [49,47,52,114,50,43,49,47,52,114,54] 0) (rdC [47,52,114,50,43,49,47,52,114,54] 0) (fun b w hc hB=>exD0 b w hB),cV (P)]
theorem exI2 (b:Nat) (w:World) (hB:Hc w b 95 (rdC [52,114,50,43,49,47,52,114,54] 0)):Calls Tryz.prog 197 #[.pointer (some ⟨b,0,none⟩)] w (RetRd b (vI 4) [114,50,43,49,47,52,114,54] 0 w):=by
 have P:=fun w=>exP4 w
 exact zbC kr Tryz.func197 rfl b 95 (rdC [52,114,50,43,49,47,52,114,54] 0) (rdC [114,50,43,49,47,52,114,54] 0) (hB) [] nle [] [.f,.f,.f,.f,.f] [cU 0 95 (rdC [52,114,50,43,49,47,52,114,54] 0) (rdC [114,50,43,49,47,52,114,54] 0) (fun b w hc hB=>exD2 b w hB),cV (P)]
theorem exI6 (b:Nat) (w:World) (hB:Hc w b 95 (rdC [49,47,52,114,54] 0)):Calls Tryz.prog 197 #[.pointer (some ⟨b,0,none⟩)] w (RetRd b (vI 1) [47,52,114,54] 0 w):=by
 have P:=fun w=>exP1 w
 exact zbC kr Tryz.func197 rfl b 95 (rdC [49,47,52,114,54] 0) (rdC [47,52,114,54] 0) (hB) [] nle [] [.f,.f,.f,.f,.f] [cU 0 95 (rdC [49,47,52,114,54] 0) (rdC [47,52,114,54] 0) (fun b w hc hB=>exD6 b w hB),cV (P)]
theorem exI8 (b:Nat) (w:World) (hB:Hc w b 95 (rdC [52,114,54] 0)):Calls Tryz.prog 197 #[.pointer (some ⟨b,0,none⟩)] w (RetRd b (vI 4) [114,54] 0 w):=by
 have P:=fun w=>exP4 w
 exact zbC kr Tryz.func197 rfl b 95 (rdC [52,114,54] 0) (rdC [114,54] 0) (hB) [] nle [] [.f,.f,.f,.f,.f] [cU 0 95 (rdC [52,114,54] 0) (rdC [114,54] 0) (fun b w hc hB=>exD8 b w hB),cV (P)]
theorem zoH (b:Nat) (w:World) (hB:Hc w b 95 (rdC [49,47,52,114,50,43,49,47,52,114,54] 0)):Calls Tryz.prog 112 #[.pointer (some ⟨b,0,none⟩),.string ⟨#[45]⟩] w (RetRd b (.bool false) [49,47,52,114,50,43,49,47,52,114,54] 0 w):=zas b [49,47,52,114,50,43,49,47,52,114,54] ⟨#[45]⟩ 0 w hB
theorem znq (b:Nat) (w:World) (hB:Hc w b 95 (rdC [49,47,52,114,50,43,49,47,52,114,54] 0)):Calls Tryz.prog 112 #[.pointer (some ⟨b,0,none⟩),.string ⟨#[114,50]⟩] w (RetRd b (.bool false) [49,47,52,114,50,43,49,47,52,114,54] 0 w):=zas b [49,47,52,114,50,43,49,47,52,114,54] ⟨#[114,50]⟩ 0 w hB
theorem znA (b:Nat) (w:World) (hB:Hc w b 95 (rdC [49,47,52,114,50,43,49,47,52,114,54] 0)):Calls Tryz.prog 112 #[.pointer (some ⟨b,0,none⟩),.string ⟨#[114,51]⟩] w (RetRd b (.bool false) [49,47,52,114,50,43,49,47,52,114,54] 0 w):=zas b [49,47,52,114,50,43,49,47,52,114,54] ⟨#[114,51]⟩ 0 w hB
theorem zmW (b:Nat) (w:World) (hB:Hc w b 95 (rdC [49,47,52,114,50,43,49,47,52,114,54] 0)):Calls Tryz.prog 112 #[.pointer (some ⟨b,0,none⟩),.string ⟨#[114,54]⟩] w (RetRd b (.bool false) [49,47,52,114,50,43,49,47,52,114,54] 0 w):=zas b [49,47,52,114,50,43,49,47,52,114,54] ⟨#[114,54]⟩ 0 w hB
theorem zoz (b:Nat) (w:World) (hB:Hc w b 95 (rdC [47,52,114,50,43,49,47,52,114,54] 0)):Calls Tryz.prog 112 #[.pointer (some ⟨b,0,none⟩),.string ⟨#[47]⟩] w (RetRd b (.bool true) [52,114,50,43,49,47,52,114,54] 0 w):=zas b [47,52,114,50,43,49,47,52,114,54] ⟨#[47]⟩ 0 w hB
theorem zn4 (b:Nat) (w:World) (hB:Hc w b 95 (rdC [114,50,43,49,47,52,114,54] 0)):Calls Tryz.prog 112 #[.pointer (some ⟨b,0,none⟩),.string ⟨#[114,50]⟩] w (RetRd b (.bool true) [43,49,47,52,114,54] 0 w):=zas b [114,50,43,49,47,52,114,54] ⟨#[114,50]⟩ 0 w hB
theorem zof (b:Nat) (w:World) (hB:Hc w b 95 (rdC [43,49,47,52,114,54] 0)):Calls Tryz.prog 112 #[.pointer (some ⟨b,0,none⟩),.string ⟨#[45]⟩] w (RetRd b (.bool false) [43,49,47,52,114,54] 0 w):=zas b [43,49,47,52,114,54] ⟨#[45]⟩ 0 w hB
theorem zou (b:Nat) (w:World) (hB:Hc w b 95 (rdC [43,49,47,52,114,54] 0)):Calls Tryz.prog 112 #[.pointer (some ⟨b,0,none⟩),.string ⟨#[43]⟩] w (RetRd b (.bool true) [49,47,52,114,54] 0 w):=zas b [43,49,47,52,114,54] ⟨#[43]⟩ 0 w hB
theorem zmU (b:Nat) (w:World) (hB:Hc w b 95 (rdC [49,47,52,114,54] 0)):Calls Tryz.prog 112 #[.pointer (some ⟨b,0,none⟩),.string ⟨#[114,50]⟩] w (RetRd b (.bool false) [49,47,52,114,54] 0 w):=zas b [49,47,52,114,54] ⟨#[114,50]⟩ 0 w hB
theorem znf (b:Nat) (w:World) (hB:Hc w b 95 (rdC [49,47,52,114,54] 0)):Calls Tryz.prog 112 #[.pointer (some ⟨b,0,none⟩),.string ⟨#[114,51]⟩] w (RetRd b (.bool false) [49,47,52,114,54] 0 w):=zas b [49,47,52,114,54] ⟨#[114,51]⟩ 0 w hB
theorem znC (b:Nat) (w:World) (hB:Hc w b 95 (rdC [49,47,52,114,54] 0)):Calls Tryz.prog 112 #[.pointer (some ⟨b,0,none⟩),.string ⟨#[114,54]⟩] w (RetRd b (.bool false) [49,47,52,114,54] 0 w):=zas b [49,47,52,114,54] ⟨#[114,54]⟩ 0 w hB
theorem zog (b:Nat) (w:World) (hB:Hc w b 95 (rdC [47,52,114,54] 0)):Calls Tryz.prog 112 #[.pointer (some ⟨b,0,none⟩),.string ⟨#[47]⟩] w (RetRd b (.bool true) [52,114,54] 0 w):=zas b [47,52,114,54] ⟨#[47]⟩ 0 w hB
theorem znu (b:Nat) (w:World) (hB:Hc w b 95 (rdC [114,54] 0)):Calls Tryz.prog 112 #[.pointer (some ⟨b,0,none⟩),.string ⟨#[114,50]⟩] w (RetRd b (.bool false) [114,54] 0 w):=zas b [114,54] ⟨#[114,50]⟩ 0 w hB
theorem znv (b:Nat) (w:World) (hB:Hc w b 95 (rdC [114,54] 0)):Calls Tryz.prog 112 #[.pointer (some ⟨b,0,none⟩),.string ⟨#[114,51]⟩] w (RetRd b (.bool false) [114,54] 0 w):=zas b [114,54] ⟨#[114,51]⟩ 0 w hB
theorem znt (b:Nat) (w:World) (hB:Hc w b 95 (rdC [114,54] 0)):Calls Tryz.prog 112 #[.pointer (some ⟨b,0,none⟩),.string ⟨#[114,54]⟩] w (RetRd b (.bool true) [] 0 w):=zas b [114,54] ⟨#[114,54]⟩ 0 w hB
def e14:Nm:=⟨1,0,0,0,4⟩
def e1:Nm:=⟨0,1,0,0,4⟩
def e3:Nm:=⟨0,0,0,1,4⟩
def e4:Nm:=⟨0,1,0,1,4⟩
theorem BN1 (a b c d e:Int) (h:(Nat.blt a.natAbs 256 && Nat.blt b.natAbs 256 && Nat.blt c.natAbs 256 && Nat.blt d.natAbs 256 && Nat.blt e.natAbs 256)=true):BN 1 ⟨a,b,c,d,e⟩:=by
 simp only [Bool.and_eq_true,Nat.blt_eq] at h
 obtain ⟨⟨⟨⟨h0,h1⟩,h2⟩,h3⟩,h4⟩:=h
 exact ⟨h0,h1,h2,h3,h4⟩
theorem zcM (x:Nm) (h:(decide (0<x.d) && Nat.beq (cof x) 1)=true):Ok x:=by
 simp only [Bool.and_eq_true,decide_eq_true_eq] at h
 exact ⟨h.1,Nat.eq_of_beq_eq_true h.2⟩
theorem exM:∀ w,Calls Tryz.prog 58 #[.agg #[.bool (sg 1),.string (mg 1),.bool false,.string ⟨#[]⟩,.bool false,.string ⟨#[]⟩,.bool false,.string ⟨#[]⟩],vI 4] w (RetV (.tuple #[vN e14,.int .i64 0]) w):=fun w=>by
 have h:=zjW ⟨1,0,0,0,4⟩ w ((BN1 1 0 0 0 4 (by decide)).mono (by omega)) (by decide)
 rw [show low ⟨1,0,0,0,4⟩=e14 from by kernel_rfl] at h
 unfold vA4 at h
 simpa only [sg0,mg0] using h
theorem exV0 (b:Nat) (w:World) (hB:Hc w b 95 (rdC [49,47,52,114,50,43,49,47,52,114,54] 0)):Calls Tryz.prog 165 #[.pointer (some ⟨b,0,none⟩)] w (RetRd b (vN e14) [114,50,43,49,47,52,114,54] 0 w):=by
 have O:=fun w=>zbk 1 w (by omega) (by omega)
 have M:=exM
 generalize e14=n14 at *
 exact zbC kr Tryz.func165 rfl b 95 (rdC [49,47,52,114,50,43,49,47,52,114,54] 0) (rdC [114,50,43,49,47,52,114,54] 0) (hB) [] nle [] [.t,.f] [cU 0 95 (rdC [49,47,52,114,50,43,49,47,52,114,54] 0) (rdC [47,52,114,50,43,49,47,52,114,54] 0) (fun b w hc hB=>exI0 b w hB),cV (O),cU 0 95 (rdC [47,52,114,50,43,49,47,52,114,54] 0) (rdC [52,114,50,43,49,47,52,114,54] 0) (fun b w hc hB=>zoz b w hB),cU 0 95 (rdC [52,114,50,43,49,47,52,114,54] 0) (rdC [114,50,43,49,47,52,114,54] 0) (fun b w hc hB=>exI2 b w hB),cV (M)]
theorem exV6 (b:Nat) (w:World) (hB:Hc w b 95 (rdC [49,47,52,114,54] 0)):Calls Tryz.prog 165 #[.pointer (some ⟨b,0,none⟩)] w (RetRd b (vN e14) [114,54] 0 w):=by
 have O:=fun w=>zbk 1 w (by omega) (by omega)
 have M:=exM
 generalize e14=n14 at *
 exact zbC kr Tryz.func165 rfl b 95 (rdC [49,47,52,114,54] 0) (rdC [114,54] 0) (hB) [] nle [] [.t,.f] [cU 0 95 (rdC [49,47,52,114,54] 0) (rdC [47,52,114,54] 0) (fun b w hc hB=>exI6 b w hB),cV (O),cU 0 95 (rdC [47,52,114,54] 0) (rdC [52,114,54] 0) (fun b w hc hB=>zog b w hB),cU 0 95 (rdC [52,114,54] 0) (rdC [114,54] 0) (fun b w hc hB=>exI8 b w hB),cV (M)]
theorem exR0 (b:Nat) (w:World) (hB:Hc w b 95 (rdC [49,47,52,114,50,43,49,47,52,114,54] 0)):Calls Tryz.prog 164 #[.pointer (some ⟨b,0,none⟩)] w (RetRd b (.tuple #[vN (intN 1),.bool false]) [49,47,52,114,50,43,49,47,52,114,54] 0 w):=by
 have O:=fun w=>zcl 1 w (by omega) (by omega)
 have R:=fun w=>zch 2 w
 generalize intN 1=n1 at *
 generalize rootN 2=n2 at *
 exact zbC kr Tryz.func164 rfl b 95 (rdC [49,47,52,114,50,43,49,47,52,114,54] 0) (rdC [49,47,52,114,50,43,49,47,52,114,54] 0) (hB) [] nle [] [.t,.f,.t,.f,.t,.f,.f] [cU 0 95 (rdC [49,47,52,114,50,43,49,47,52,114,54] 0) (rdC [49,47,52,114,50,43,49,47,52,114,54] 0) (fun b w hc hB=>znq b w hB),cU 0 95 (rdC [49,47,52,114,50,43,49,47,52,114,54] 0) (rdC [49,47,52,114,50,43,49,47,52,114,54] 0) (fun b w hc hB=>znA b w hB),cU 0 95 (rdC [49,47,52,114,50,43,49,47,52,114,54] 0) (rdC [49,47,52,114,50,43,49,47,52,114,54] 0) (fun b w hc hB=>zmW b w hB),cV (O)]
theorem exR3 (b:Nat) (w:World) (hB:Hc w b 95 (rdC [114,50,43,49,47,52,114,54] 0)):Calls Tryz.prog 164 #[.pointer (some ⟨b,0,none⟩)] w (RetRd b (.tuple #[vN (rootN 2),.bool true]) [43,49,47,52,114,54] 0 w):=by
 have O:=fun w=>zcl 1 w (by omega) (by omega)
 have R:=fun w=>zch 2 w
 generalize intN 1=n1 at *
 generalize rootN 2=n2 at *
 exact zbC kr Tryz.func164 rfl b 95 (rdC [114,50,43,49,47,52,114,54] 0) (rdC [43,49,47,52,114,54] 0) (hB) [] nle [] [.t,.t] [cU 0 95 (rdC [114,50,43,49,47,52,114,54] 0) (rdC [43,49,47,52,114,54] 0) (fun b w hc hB=>zn4 b w hB),cV (R)]
theorem exR6 (b:Nat) (w:World) (hB:Hc w b 95 (rdC [49,47,52,114,54] 0)):Calls Tryz.prog 164 #[.pointer (some ⟨b,0,none⟩)] w (RetRd b (.tuple #[vN (intN 1),.bool false]) [49,47,52,114,54] 0 w):=by
 have O:=fun w=>zcl 1 w (by omega) (by omega)
 have R:=fun w=>zch 2 w
 generalize intN 1=n1 at *
 generalize rootN 2=n2 at *
 exact zbC kr Tryz.func164 rfl b 95 (rdC [49,47,52,114,54] 0) (rdC [49,47,52,114,54] 0) (hB) [] nle [] [.t,.f,.t,.f,.t,.f,.f] [cU 0 95 (rdC [49,47,52,114,54] 0) (rdC [49,47,52,114,54] 0) (fun b w hc hB=>zmU b w hB),cU 0 95 (rdC [49,47,52,114,54] 0) (rdC [49,47,52,114,54] 0) (fun b w hc hB=>znf b w hB),cU 0 95 (rdC [49,47,52,114,54] 0) (rdC [49,47,52,114,54] 0) (fun b w hc hB=>znC b w hB),cV (O)]
theorem exR9 (b:Nat) (w:World) (hB:Hc w b 95 (rdC [114,54] 0)):Calls Tryz.prog 164 #[.pointer (some ⟨b,0,none⟩)] w (RetRd b (.tuple #[vN (rootN 6),.bool true]) [] 0 w):=by
 have O:=fun w=>zcl 1 w (by omega) (by omega)
 have R:=fun w=>zch 6 w
 generalize intN 1=n1 at *
 generalize rootN 6=n2 at *
 exact zbC kr Tryz.func164 rfl b 95 (rdC [114,54] 0) (rdC [] 0) (hB) [] nle [] [.t,.f,.t,.f,.t,.t] [cU 0 95 (rdC [114,54] 0) (rdC [114,54] 0) (fun b w hc hB=>znu b w hB),cU 0 95 (rdC [114,54] 0) (rdC [114,54] 0) (fun b w hc hB=>znv b w hB),cU 0 95 (rdC [114,54] 0) (rdC [] 0) (fun b w hc hB=>znt b w hB),cV (R)]
theorem exT0 (b:Nat) (w:World) (hB:Hc w b 95 (rdC [49,47,52,114,50,43,49,47,52,114,54] 0)):Calls Tryz.prog 113 #[.pointer (some ⟨b,0,none⟩)] w (RetRd b (vN e1) [43,49,47,52,114,54] 0 w):=by
 have M:=fun w=>zed e14 (rootN 2) w ((BN1 1 0 0 0 4 (by decide)).mono (by omega)) ((BN.root 2).mono (by omega)) (zcM _ (by decide)) (zcQ 2)
 rw [show mulN e14 (rootN 2)=e1 from by kernel_rfl] at M
 have R1:=exR0
 have R2:=exR3
 have V:=exV0
 generalize intN 1=n1 at *
 generalize rootN 2=n2 at *
 generalize e14=n3 at *
 generalize e1=n4 at *
 exact zbC kr Tryz.func113 rfl b 95 (rdC [49,47,52,114,50,43,49,47,52,114,54] 0) (rdC [43,49,47,52,114,54] 0) (hB) [] nle [] [.f] [cU 0 95 (rdC [49,47,52,114,50,43,49,47,52,114,54] 0) (rdC [49,47,52,114,50,43,49,47,52,114,54] 0) (fun b w hc hB=>R1 b w hB),cU 0 95 (rdC [49,47,52,114,50,43,49,47,52,114,54] 0) (rdC [114,50,43,49,47,52,114,54] 0) (fun b w hc hB=>V b w hB),cU 0 95 (rdC [114,50,43,49,47,52,114,54] 0) (rdC [43,49,47,52,114,54] 0) (fun b w hc hB=>R2 b w hB),cV (M)]
theorem exT6 (b:Nat) (w:World) (hB:Hc w b 95 (rdC [49,47,52,114,54] 0)):Calls Tryz.prog 113 #[.pointer (some ⟨b,0,none⟩)] w (RetRd b (vN e3) [] 0 w):=by
 have M:=fun w=>zed e14 (rootN 6) w ((BN1 1 0 0 0 4 (by decide)).mono (by omega)) ((BN.root 6).mono (by omega)) (zcM _ (by decide)) (zcQ 6)
 rw [show mulN e14 (rootN 6)=e3 from by kernel_rfl] at M
 have R1:=exR6
 have R2:=exR9
 have V:=exV6
 generalize intN 1=n1 at *
 generalize rootN 6=n2 at *
 generalize e14=n3 at *
 generalize e3=n4 at *
 exact zbC kr Tryz.func113 rfl b 95 (rdC [49,47,52,114,54] 0) (rdC [] 0) (hB) [] nle [] [.f] [cU 0 95 (rdC [49,47,52,114,54] 0) (rdC [49,47,52,114,54] 0) (fun b w hc hB=>R1 b w hB),cU 0 95 (rdC [49,47,52,114,54] 0) (rdC [114,54] 0) (fun b w hc hB=>V b w hB),cU 0 95 (rdC [114,54] 0) (rdC [] 0) (fun b w hc hB=>R2 b w hB),cV (M)]
theorem exParse (w:World):Calls Tryz.prog 54 #[.string ⟨#[49,47,52,114,50,43,49,47,52,114,54]⟩] w (RetV (.tuple #[vN e4,.int .i64 0]) w):=by
 have O:=fun w=>zcl 0 w (by omega) (by omega)
 have A1:=fun w=>zdn (intN 0) e1 w ((BN1 0 0 0 0 1 (by decide)).mono (by omega)) ((BN1 0 1 0 0 4 (by decide)).mono (by omega)) (zbv 0) (zcM _ (by decide))
 rw [show addN (intN 0) e1=e1 from by kernel_rfl] at A1
 have A2:=fun w=>zdn e1 e3 w ((BN1 0 1 0 0 4 (by decide)).mono (by omega)) ((BN1 0 0 0 1 4 (by decide)).mono (by omega)) (zcM _ (by decide)) (zcM _ (by decide))
 rw [show addN e1 e3=e4 from by kernel_rfl] at A2
 have T1:=exT0
 have T2:=exT6
 generalize intN 0=n1 at *
 generalize e1=n2 at *
 generalize e3=n3 at *
 generalize e4=n4 at *
 exact zac kr Tryz.func54 rfl [.string ⟨#[49,47,52,114,50,43,49,47,52,114,54]⟩] nle [] [.f,.f,.f,.f,.f,.f,.f,.f,.f,.t,.t,.t,.t,.f,.f,.f,.f,.f,.f,.f,.f,.t,.f] [cV (O),cU 7 95 (rdC [49,47,52,114,50,43,49,47,52,114,54] 0) (rdC [49,47,52,114,50,43,49,47,52,114,54] 0) (fun b w hc hB=>zoH b w hB),cU 7 95 (rdC [49,47,52,114,50,43,49,47,52,114,54] 0) (rdC [43,49,47,52,114,54] 0) (fun b w hc hB=>T1 b w hB),cV (A1),cU 7 95 (rdC [43,49,47,52,114,54] 0) (rdC [43,49,47,52,114,54] 0) (fun b w hc hB=>zof b w hB),cU 7 95 (rdC [43,49,47,52,114,54] 0) (rdC [49,47,52,114,54] 0) (fun b w hc hB=>zou b w hB),cU 7 95 (rdC [49,47,52,114,54] 0) (rdC [] 0) (fun b w hc hB=>T2 b w hB),cV (A2)]

theorem Chg.bl0 {w w':World} (hc:Chg [] w w'):Below w.heap.size w w':=hc.below (Nat.le_refl _) (fun x h=>by cases h)
theorem zoy:vI 1 = .agg #[.bool false,.string ⟨#[1]⟩]:=by kernel_rfl
theorem zo5:vI (-1) = .agg #[.bool true,.string ⟨#[1]⟩]:=by kernel_rfl
theorem zo0:vI 4 = .agg #[.bool false,.string ⟨#[4]⟩]:=by kernel_rfl
theorem it1:strOf (Lib.itoa 1) = .string ⟨#[49]⟩:=by kernel_rfl
theorem it4:strOf (Lib.itoa 4) = .string ⟨#[52]⟩:=by kernel_rfl
def e5:Nm:=⟨0,-1,1,0,1⟩
theorem zoT:vN e4 = .agg #[.bool false,.string ⟨#[]⟩,.bool false,.string ⟨#[1]⟩,.bool false,.string ⟨#[]⟩,.bool false,.string ⟨#[1]⟩,.bool false,.string ⟨#[4]⟩]:=by kernel_rfl
theorem zoY:vN e5 = .agg #[.bool false,.string ⟨#[]⟩,.bool true,.string ⟨#[1]⟩,.bool false,.string ⟨#[1]⟩,.bool false,.string ⟨#[]⟩,.bool false,.string ⟨#[1]⟩]:=by kernel_rfl
theorem bd1 {z:Int} (k:Nat) (hk:1≤k) (h:z.natAbs<256):Bd k z:=(show Bd 1 z by unfold Bd;omega).mono hk
theorem exPrint5 (w:World) (ht:HasTab w):Calls Tryz.prog 53 #[vN e5] w (RetV (.string ⟨#[45,114,50,43,114,51]⟩) w):=by
 have V:=fun w=>zaC e5 w ((BN1 0 (-1) 1 0 1 (by decide)).mono (by omega)) (zcM _ (by decide))
 have G1:=fun w=>zdb (-1) 1 w (bd1 _ (by omega) (by decide)) (bd1 _ (by omega) (by decide))
 have G2:=fun w=>zdb 1 1 w (bd1 _ (by omega) (by decide)) (bd1 _ (by omega) (by decide))
 have A1:=fun w=>zhq (-1) w
 have A2:=fun w=>zhq 1 w
 have V1:=fun w=>zbA 1 1 w (bd1 _ (by omega) (by decide)) (bd1 _ (by omega) (by decide)) (by decide)
 have P1:=fun w' (hc:Chg [] w w')=>zeA 1 w' (bd1 _ (by omega) (by decide)) (ht.below (Chg.bl0 hc))
 have O:=fun w=>zbk 1 w (by omega) (by omega)
 unfold RetI at G1 G2 A1 A2 V1 O
 simp only [show ((Nat.gcd (Int.natAbs (-1)) (Int.natAbs 1):Nat):Int)=1 from rfl,show ((Nat.gcd (Int.natAbs 1) (Int.natAbs 1):Nat):Int)=1 from rfl,show ((Int.natAbs (-1):Nat):Int)=1 from rfl,show ((Int.natAbs 1:Nat):Int)=1 from rfl,show (1:Int).fdiv 1=1 from rfl,zoy,zo5,it1] at G1 G2 A1 A2 V1 O P1
 rw [zoY] at V ⊢
 exact zac kr Tryz.func53 rfl [.agg #[.bool false,.string ⟨#[]⟩,.bool true,.string ⟨#[1]⟩,.bool false,.string ⟨#[1]⟩,.bool false,.string ⟨#[]⟩,.bool false,.string ⟨#[1]⟩]] nle [] [.f,.t,.t,.t,.f,.f,.t,.t,.t,.t,.t,.t,.f,.f,.t,.t,.t,.t,.f,.t,.t,.t,.f,.f] [cV (V),cV (G1),cV (A1),cV (V1),cV (V1),cW P1,cV (O),cV (G2),cV (A2),cV (V1),cV (V1),cW P1,cV (O)]
theorem exPrint4 (w:World) (ht:HasTab w):Calls Tryz.prog 53 #[vN e4] w (RetV (.string ⟨#[49,47,52,114,50,43,49,47,52,114,54]⟩) w):=by
 have V:=fun w=>zaC e4 w ((BN1 0 1 0 1 4 (by decide)).mono (by omega)) (zcM _ (by decide))
 have G:=fun w=>zdb 1 4 w (bd1 _ (by omega) (by decide)) (bd1 _ (by omega) (by decide))
 have A1:=fun w=>zhq 1 w
 have V1:=fun w=>zbA 1 1 w (bd1 _ (by omega) (by decide)) (bd1 _ (by omega) (by decide)) (by decide)
 have V4:=fun w=>zbA 4 1 w (bd1 _ (by omega) (by decide)) (bd1 _ (by omega) (by decide)) (by decide)
 have P1:=fun w' (hc:Chg [] w w')=>zeA 1 w' (bd1 _ (by omega) (by decide)) (ht.below (Chg.bl0 hc))
 have P4:=fun w' (hc:Chg [] w w')=>zeA 4 w' (bd1 _ (by omega) (by decide)) (ht.below (Chg.bl0 hc))
 have O:=fun w=>zbk 1 w (by omega) (by omega)
 unfold RetI at G A1 V1 V4 O
 simp only [show ((Nat.gcd (Int.natAbs 1) (Int.natAbs 4):Nat):Int)=1 from rfl,show ((Int.natAbs 1:Nat):Int)=1 from rfl,show (1:Int).fdiv 1=1 from rfl,show (4:Int).fdiv 1=4 from rfl,zoy,zo0,it1,it4] at G A1 V1 V4 O P1 P4
 rw [zoT] at V ⊢
 exact zac kr Tryz.func53 rfl [.agg #[.bool false,.string ⟨#[]⟩,.bool false,.string ⟨#[1]⟩,.bool false,.string ⟨#[]⟩,.bool false,.string ⟨#[1]⟩,.bool false,.string ⟨#[4]⟩]] nle [] [.f,.t,.t,.t,.f,.t,.f,.f,.f,.f,.f,.f,.t,.t,.t,.f,.t,.f,.f,.f,.f,.f,.t,.f,.f] [cV (V),cV (G),cV (A1),cV (V1),cV (V4),cW P1,cV (O),cW P4,cV (G),cV (A1),cV (V1),cV (V4),cW P1,cV (O),cW P4]
theorem zn2 (n:Int) (w:World) (h0:-9223372036854775808≤n) (h1:n≤9223372036854775807):Calls Tryz.prog 27 #[.int .i64 n] w (RetV (vN (intN n)) w):=by
 have H1:=fun w=>zaG n w h0 h1
 have H2:=fun w=>zaG 1 w (by omega) (by omega)
 unfold intN
 rw [zhL]
 exact zac kr Tryz.func27 rfl [.int .i64 n] nle [] [] [cV (H1),cV (H2)]
def e6:Nm:=⟨0,1,1,0,1⟩
def e7:Nm:=⟨1,1,0,0,1⟩
def e8:Nm:=⟨1,-1,0,0,1⟩
theorem zhF (k:Int) (h:k.natAbs<256):BN 1 (intN k):=BN.int (show Bd 1 k by unfold Bd;omega) (Nat.le_refl 1)
theorem zi1 (w:World) (ht:HasTab w):Calls Tryz.prog 46 #[] w (RetV (.bool true) w):=by
 have R2:=fun w=>zch 2 w
 have R3:=fun w=>zch 3 w
 have O1:=fun w=>zcl 1 w (by omega) (by omega)
 have O3:=fun w=>zcl 3 w (by omega) (by omega)
 have Om:=fun w=>zn2 (-1) w (by omega) (by omega)
 have A1:=fun w=>zdn (rootN 2) (rootN 3) w ((BN.root 2).mono (by omega)) ((BN.root 3).mono (by omega)) (zcQ 2) (zcQ 3)
 have D:=fun w=>zlN (intN 1) e6 w ((zhF 1 (by decide)).mono (by omega)) ((BN1 0 1 1 0 1 (by decide)).mono (by omega)) (zbv 1) (zcM _ (by decide)) (by intro h;have:=congrArg Nm.c1 h;revert this;decide)
 have A2:=fun w=>zdn (intN 1) (rootN 2) w ((zhF 1 (by decide)).mono (by omega)) ((BN.root 2).mono (by omega)) (zbv 1) (zcQ 2)
 have S:=fun w=>zie (intN 1) (rootN 2) w ((zhF 1 (by decide)).mono (by omega)) ((BN.root 2).mono (by omega)) (zbv 1) (zcQ 2)
 have M:=fun w=>zed e7 e8 w ((BN1 1 1 0 0 1 (by decide)).mono (by omega)) ((BN1 1 (-1) 0 0 1 (by decide)).mono (by omega)) (zcM _ (by decide)) (zcM _ (by decide))
 have C:=fun w=>zhK e6 (intN 3) w ((BN1 0 1 1 0 1 (by decide)).mono (by omega)) ((zhF 3 (by decide)).mono (by omega)) (zcM _ (by decide)) (zbv 3)
 have P:=exParse
 have P5:=fun w' (hc:Chg [] w w')=>exPrint5 w' (ht.below (Chg.bl0 hc))
 have P4:=fun w' (hc:Chg [] w w')=>exPrint4 w' (ht.below (Chg.bl0 hc))
 rw [show addN (rootN 2) (rootN 3)=e6 from by kernel_rfl] at A1
 rw [show divN (intN 1) e6=e5 from by kernel_rfl] at D
 rw [show addN (intN 1) (rootN 2)=e7 from by kernel_rfl] at A2
 rw [show subN (intN 1) (rootN 2)=e8 from by kernel_rfl] at S
 rw [show mulN e7 e8=intN (-1) from by kernel_rfl] at M
 rw [show cmpK e6 (intN 3)=1 from by kernel_rfl] at C
 generalize e4=e4 at *
 generalize e5=e5 at *
 generalize e6=e6 at *
 generalize e7=e7 at *
 generalize e8=e8 at *
 generalize intN 1=n1 at *
 generalize intN 3=n3 at *
 generalize intN (-1)=nm at *
 generalize rootN 2=r2 at *
 generalize rootN 3=r3 at *
 exact zac kr Tryz.func46 rfl [] nle [(5,14)] [.t,.t,.t,.t,.t,.t,.t,.t,.t,.t,.t,.t,.t,.t,.t,.t,.t,.t,.t,.t] [cV (R2),cV (R3),cV (A1),cV (O1),cV (D),cV (O1),cV (R2),cV (A2),cV (O1),cV (R2),cV (S),cV (M),cV (P),cW P5,cV (Om),lV _ (.bool true) (fun w hC=>zee (nm) (.tmp 39) (.tmp 40) w),cV (O3),cV (C),cW P4]
end Go.Proofs.YtegnalgjjmpcmaaGreatDoor
