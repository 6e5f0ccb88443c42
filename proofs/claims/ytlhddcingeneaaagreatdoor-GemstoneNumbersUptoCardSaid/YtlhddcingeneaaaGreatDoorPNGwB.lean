/- Numbers with small integers (reference). -/
import Derived.Test.YtlhddcingeneaaaGreatDoorPNK
import Derived.Test.YtlhddcingeneaaaGreatDoorPND
namespace Go.Proofs.YtlhddcingeneaaaGreatDoor
open Go Go.RowKit
set_option maxRecDepth 100000
set_option linter.unusedVariables false
set_option linter.unusedSimpArgs false
def cmpR (n:Bool) (s:ByteArray):Int:=if vld n s=true then (ival n s - 400).sign else 0
def absR (n:Bool) (s:ByteArray):Int:=if vld n s=true then ((ival n s).natAbs:Int) else 0
def camR (n:Bool) (s:ByteArray):Int:=(absR n s - 400).sign
def fewE (c4 c0 c1 c2 c3:Int) (o:Bool):Bool:=!decide ((0:Int)<c4) && (!decide ((0:Int)<c0) && (!decide ((0:Int)<c1) && (!decide ((0:Int)<c2) && (!decide ((0:Int)<c3) && o))))
def fewR (r:Rw):Bool:=fewE (cmpR r.n4 r.s4) (camR r.n0 r.s0) (camR r.n1 r.s1) (camR r.n2 r.s2) (camR r.n3 r.s3) (okR r)
theorem bd_400:Bd 400000000 400:=(show Bd 2 400 by unfold Bd;omega).mono (by omega)
theorem agg_ival {n:Bool} {s:ByteArray} (h:vld n s=true):(.agg #[.bool n,.string s]:Value)=vI (ival n s):=by
 obtain ⟨e1,e2⟩:=vld_form h
 unfold vI
 rw [← e1,← e2]
theorem bd_ival {n:Bool} {s:ByteArray} {k:Nat} (h:vld n s=true) (g:s.size≤k):Bd k (ival n s):=by
 have:=Bd.of_size (ival n s)
 rw [← (vld_form h).2] at this
 exact this.mono g
theorem cmpR_any (n:Bool) (s:ByteArray) (w:World) (hs:s.size≤80000000):Calls Tryz.prog 15 #[.agg #[.bool n,.string s],vI 400] w (RetN (cmpR n s) w):=by
 unfold cmpR
 cases h:vld n s with
 | true =>
  rw [if_pos rfl]
  have h1:=agg_ival h
  rw [h1]
  exact RCmp_any (ival n s) 400 w ((bd_ival h hs).mono (by omega)) bd_400
 | false =>
  rw [if_neg (by decide)]
  exact RCmp_bad1 n _ s _ w h
theorem absR_any (n:Bool) (s:ByteArray) (w:World):Calls Tryz.prog 41 #[.agg #[.bool n,.string s]] w (RetI (absR n s) w):=by
 unfold absR
 cases h:vld n s with
 | true =>
  rw [if_pos rfl]
  have h1:=agg_ival h
  rw [h1]
  exact RAbs_any (ival n s) w
 | false =>
  rw [if_neg (by decide)]
  exact RAbs_bad n s w h
theorem camR_any (n:Bool) (s:ByteArray) (w:World) (hs:s.size≤80000000):Calls Tryz.prog 15 #[vI (absR n s),vI 400] w (RetN (camR n s) w):=by
 refine RCmp_any (absR n s) 400 w ?_ bd_400
 unfold absR
 split
 ·rename_i h
  have:=(bd_ival h hs).mono (show 80000000≤400000000 by omega)
  unfold Bd at this ⊢
  rw [Int.natAbs_natCast]
  exact this
 ·exact Bd.zero _
theorem gFew_any (r:Rw) (w:World) (hs:smallR 80000000 r):Calls Tryz.prog 11 #[vR r] w (RetV (.bool (fewR r)) w):=by
 have O:=fun w=>ROf_any 400 w (by omega) (by omega)
 have D:=fun w=>cmpR_any r.n4 r.s4 w hs.2.2.2.2
 have A0:=fun w=>absR_any r.n0 r.s0 w
 have A1:=fun w=>absR_any r.n1 r.s1 w
 have A2:=fun w=>absR_any r.n2 r.s2 w
 have A3:=fun w=>absR_any r.n3 r.s3 w
 have C0:=fun w=>camR_any r.n0 r.s0 w hs.1
 have C1:=fun w=>camR_any r.n1 r.s1 w hs.2.1
 have C2:=fun w=>camR_any r.n2 r.s2 w hs.2.2.1
 have C3:=fun w=>camR_any r.n3 r.s3 w hs.2.2.2.1
 have V:=fun w=>gValid_any r w hs
 unfold fewR
 generalize cmpR r.n4 r.s4=c4 at *
 generalize camR r.n0 r.s0=c0 at *
 generalize camR r.n1 r.s1=c1 at *
 generalize camR r.n2 r.s2=c2 at *
 generalize camR r.n3 r.s3=c3 at *
 generalize absR r.n0 r.s0=a0 at *
 generalize absR r.n1 r.s1=a1 at *
 generalize absR r.n2 r.s2=a2 at *
 generalize absR r.n3 r.s3=a3 at *
 unfold RetI at O A0 A1 A2 A3
 unfold RetN at D C0 C1 C2 C3
 generalize okR r=ok at *
 cases q0:(decide ((0:Int)<c4)) with
 | true =>
  rw [show (fewE c4 c0 c1 c2 c3 ok)=false from by simp only [fewE,q0];try rfl]
  exact vm_pure kr Tryz.func11 rfl [.agg #[.bool r.n0,.string r.s0,.bool r.n1,.string r.s1,.bool r.n2,.string r.s2,.bool r.n3,.string r.s3,.bool r.n4,.string r.s4]] nle [] [dT q0] [cV (O),cV (D)]
 | false =>
  cases q1:(decide ((0:Int)<c0)) with
  | true =>
   rw [show (fewE c4 c0 c1 c2 c3 ok)=false from by simp only [fewE,q0,q1];try rfl]
   exact vm_pure kr Tryz.func11 rfl [.agg #[.bool r.n0,.string r.s0,.bool r.n1,.string r.s1,.bool r.n2,.string r.s2,.bool r.n3,.string r.s3,.bool r.n4,.string r.s4]] nle [] [dF q0,.t,dT q1] [cV (O),cV (D),cV (A0),cV (C0)]
  | false =>
   cases q2:(decide ((0:Int)<c1)) with
   | true =>
    rw [show (fewE c4 c0 c1 c2 c3 ok)=false from by simp only [fewE,q0,q1,q2];try rfl]
    exact vm_pure kr Tryz.func11 rfl [.agg #[.bool r.n0,.string r.s0,.bool r.n1,.string r.s1,.bool r.n2,.string r.s2,.bool r.n3,.string r.s3,.bool r.n4,.string r.s4]] nle [] [dF q0,.t,dF q1,.t,dT q2] [cV (O),cV (D),cV (A0),cV (C0),cV (A1),cV (C1)]
   | false =>
    cases q3:(decide ((0:Int)<c2)) with
    | true =>
     rw [show (fewE c4 c0 c1 c2 c3 ok)=false from by simp only [fewE,q0,q1,q2,q3];try rfl]
     exact vm_pure kr Tryz.func11 rfl [.agg #[.bool r.n0,.string r.s0,.bool r.n1,.string r.s1,.bool r.n2,.string r.s2,.bool r.n3,.string r.s3,.bool r.n4,.string r.s4]] nle [] [dF q0,.t,dF q1,.t,dF q2,.t,dT q3] [cV (O),cV (D),cV (A0),cV (C0),cV (A1),cV (C1),cV (A2),cV (C2)]
    | false =>
     cases q4:(decide ((0:Int)<c3)) with
     | true =>
      rw [show (fewE c4 c0 c1 c2 c3 ok)=false from by simp only [fewE,q0,q1,q2,q3,q4];try rfl]
      exact vm_pure kr Tryz.func11 rfl [.agg #[.bool r.n0,.string r.s0,.bool r.n1,.string r.s1,.bool r.n2,.string r.s2,.bool r.n3,.string r.s3,.bool r.n4,.string r.s4]] nle [] [dF q0,.t,dF q1,.t,dF q2,.t,dF q3,.t,dT q4] [cV (O),cV (D),cV (A0),cV (C0),cV (A1),cV (C1),cV (A2),cV (C2),cV (A3),cV (C3)]
     | false =>
      rw [show (fewE c4 c0 c1 c2 c3 ok)=ok from by simp only [fewE,q0,q1,q2,q3,q4];try rfl]
      exact vm_pure kr Tryz.func11 rfl [.agg #[.bool r.n0,.string r.s0,.bool r.n1,.string r.s1,.bool r.n2,.string r.s2,.bool r.n3,.string r.s3,.bool r.n4,.string r.s4]] nle [] [dF q0,.t,dF q1,.t,dF q2,.t,dF q3,.t,dF q4,.f] [cV (O),cV (D),cV (A0),cV (C0),cV (A1),cV (C1),cV (A2),cV (C2),cV (A3),cV (C3),cV (V)]
theorem few_num {r:Rw} (h:fewR r=true):vR r=vN (nmR r)∧Ok (nmR r)∧(nmR r).c0.natAbs≤400∧(nmR r).c1.natAbs≤400∧(nmR r).c2.natAbs≤400∧(nmR r).c3.natAbs≤400∧(nmR r).d.natAbs≤400:=by
 unfold fewR fewE at h
 simp only [Bool.and_eq_true,Bool.not_eq_true',decide_eq_false_iff_not] at h
 obtain ⟨h4,h0,h1,h2,h3,ho⟩:=h
 obtain ⟨ok,hv⟩:=okR_ok ho
 refine ⟨vR_eq hv,ok,?_⟩
 have hv':=hv
 unfold vldR at hv'
 simp only [Bool.and_eq_true] at hv'
 obtain ⟨⟨⟨⟨v0,v1⟩,v2⟩,v3⟩,v4⟩:=hv'
 have hd:=ok.pos
 unfold cmpR at h4
 unfold camR absR at h0 h1 h2 h3
 rw [if_pos v4,Int.sign_pos_iff] at h4
 rw [if_pos v0,Int.sign_pos_iff] at h0
 rw [if_pos v1,Int.sign_pos_iff] at h1
 rw [if_pos v2,Int.sign_pos_iff] at h2
 rw [if_pos v3,Int.sign_pos_iff] at h3
 unfold nmR at hd ⊢
 simp only at hd ⊢
 omega
end Go.Proofs.YtlhddcingeneaaaGreatDoor
