/- The critical angle: refraction.Critical and the reference's. -/
import Derived.Test.YtlhddcingeneaaaGreatDoorPNGnC
namespace Go.Proofs.YtlhddcingeneaaaGreatDoor
open Go Go.RowKit
set_option maxRecDepth 100000
set_option linter.unusedVariables false
set_option linter.unusedSimpArgs false
def RetC (t:TypeId) (b:Nat) (v:Value) (w:World) (e:Ending) (w':World):Prop:=e = .returned v∧Hc w' b t #[.int .i64 0]∧Chg [b] w w'
theorem rf_Square (a b c d:Int) (k:Nat) (w:World) (hB:Hc w k 137 #[.int .i64 0]) (H:∀ w,Calls Tryz.prog 121 #[vIv a b] w (RetV (.tuple #[vIv c d,.int .i64 0]) w)):Calls Tryz.prog 120 #[.pointer (some ⟨k,0,none⟩),.func (.func 121) #[] #[],vIv a b] w (RetC 137 k (vIv c d) w):=by
 exact vm_ptr kr Tryz.func120 rfl k 137 (#[.int .i64 0]) (#[.int .i64 0]) (hB) [.func (.func 121) #[] #[],vIv a b] nle [] [.f] [cV (H)]
theorem rf_Sqrt (a b c d:Int) (k:Nat) (w:World) (hB:Hc w k 137 #[.int .i64 0]) (H:∀ w,Calls Tryz.prog 122 #[vIv a b] w (RetV (.tuple #[vIv c d,.int .i64 0]) w)):Calls Tryz.prog 120 #[.pointer (some ⟨k,0,none⟩),.func (.func 122) #[] #[],vIv a b] w (RetC 137 k (vIv c d) w):=by
 exact vm_ptr kr Tryz.func120 rfl k 137 (#[.int .i64 0]) (#[.int .i64 0]) (hB) [.func (.func 122) #[] #[],vIv a b] nle [] [.f] [cV (H)]
theorem rf_Sub (a b a2 b2 c d:Int) (k:Nat) (w:World) (hB:Hc w k 137 #[.int .i64 0]) (H:∀ w,Calls Tryz.prog 124 #[vIv a b,vIv a2 b2] w (RetV (.tuple #[vIv c d,.int .i64 0]) w)):Calls Tryz.prog 123 #[.pointer (some ⟨k,0,none⟩),.func (.func 124) #[] #[],vIv a b,vIv a2 b2] w (RetC 137 k (vIv c d) w):=by
 exact vm_ptr kr Tryz.func123 rfl k 137 (#[.int .i64 0]) (#[.int .i64 0]) (hB) [.func (.func 124) #[] #[],vIv a b,vIv a2 b2] nle [] [.f] [cV (H)]
theorem rf_Div (a b a2 b2 c d:Int) (k:Nat) (w:World) (hB:Hc w k 137 #[.int .i64 0]) (H:∀ w,Calls Tryz.prog 126 #[vIv a b,vIv a2 b2] w (RetV (.tuple #[vIv c d,.int .i64 0]) w)):Calls Tryz.prog 123 #[.pointer (some ⟨k,0,none⟩),.func (.func 126) #[] #[],vIv a b,vIv a2 b2] w (RetC 137 k (vIv c d) w):=by
 exact vm_ptr kr Tryz.func123 rfl k 137 (#[.int .i64 0]) (#[.int .i64 0]) (hB) [.func (.func 126) #[] #[],vIv a b,vIv a2 b2] nle [] [.f] [cV (H)]
theorem rh_kept (c d:Int) (k:Nat) (w:World) (hB:Hc w k 144 #[.int .i64 0]):Calls Tryz.prog 175 #[.pointer (some ⟨k,0,none⟩),vIv c d,.int .i64 0] w (RetC 144 k (vIv c d) w):=by
 exact vm_ptr kr Tryz.func175 rfl k 144 (#[.int .i64 0]) (#[.int .i64 0]) (hB) [vIv c d,.int .i64 0] nle [] [.t] []
theorem rh_Square (a b c d:Int) (k:Nat) (w:World) (hB:Hc w k 144 #[.int .i64 0]) (H:∀ w,Calls Tryz.prog 178 #[vIv a b] w (RetV (.tuple #[vIv c d,.int .i64 0]) w)):Calls Tryz.prog 131 #[.pointer (some ⟨k,0,none⟩),vIv a b] w (RetC 144 k (vIv c d) w):=by
 exact vm_ptr kr Tryz.func131 rfl k 144 (#[.int .i64 0]) (#[.int .i64 0]) (hB) [vIv a b] nle [] [] [cV (H),cU 0 144 (#[.int .i64 0]) (#[.int .i64 0]) (fun b w hC hB=>rh_kept c d b w hB)]
theorem rh_Sub (a b a2 b2 c d:Int) (k:Nat) (w:World) (hB:Hc w k 144 #[.int .i64 0]) (H:∀ w,Calls Tryz.prog 176 #[vIv a b,vIv a2 b2] w (RetV (.tuple #[vIv c d,.int .i64 0]) w)):Calls Tryz.prog 128 #[.pointer (some ⟨k,0,none⟩),vIv a b,vIv a2 b2] w (RetC 144 k (vIv c d) w):=by
 exact vm_ptr kr Tryz.func128 rfl k 144 (#[.int .i64 0]) (#[.int .i64 0]) (hB) [vIv a b,vIv a2 b2] nle [] [] [cV (H),cU 0 144 (#[.int .i64 0]) (#[.int .i64 0]) (fun b w hC hB=>rh_kept c d b w hB)]
theorem rh_Div (a b a2 b2 c d:Int) (k:Nat) (w:World) (hB:Hc w k 144 #[.int .i64 0]) (H:∀ w,Calls Tryz.prog 177 #[vIv a b,vIv a2 b2] w (RetV (.tuple #[vIv c d,.int .i64 0]) w)):Calls Tryz.prog 130 #[.pointer (some ⟨k,0,none⟩),vIv a b,vIv a2 b2] w (RetC 144 k (vIv c d) w):=by
 exact vm_ptr kr Tryz.func130 rfl k 144 (#[.int .i64 0]) (#[.int .i64 0]) (hB) [vIv a b,vIv a2 b2] nle [] [] [cV (H),cU 0 144 (#[.int .i64 0]) (#[.int .i64 0]) (fun b w hC hB=>rh_kept c d b w hB)]
theorem rfunit_any (w:World):Calls Tryz.prog 125 #[] w (RetV (vIv 16777216 16777216) w):=by
 exact vm_pure kr Tryz.func125 rfl [] nle [] [] []
theorem rhOne_any (w:World):Calls Tryz.prog 129 #[] w (RetV (vIv 16777216 16777216) w):=by
 exact vm_pure kr Tryz.func129 rfl [] nle [] [] []
theorem sq_rng {lo hi:Int} (h0:16777216≤lo) (h:lo≤hi) (h1:hi≤67108864):16777216≤sqL lo∧sqL lo≤sqH hi∧sqH hi≤268435456:=by
 obtain ⟨b1,b2,b3⟩:=sq_in h0 h h1
 unfold sqL sqH
 generalize lo * lo=p at *
 generalize hi * hi=q at *
 omega
def crA (lo:Int):Int:=16777216 - dvH (sqL lo)
def crB (hi:Int):Int:=16777216 - dvL (sqH hi)
theorem cr_in {lo hi:Int} (h0:16777216≤lo) (h:lo≤hi) (h1:hi≤67108864):0≤crA lo∧crA lo≤crB hi∧crB hi≤16777216:=by
 obtain ⟨b1,b2,b3⟩:=sq_rng h0 h h1
 obtain ⟨c1,c2,c3,c4,c5⟩:=dv_in b1 b2
 unfold crA crB
 omega
theorem rfCritical_any (lo hi r s:Int) (w:World) (h0:16777216≤lo) (h:lo≤hi) (h1:hi≤67108864) (hr:IsRt r (crA lo * 16777216)) (hs:IsRt s (crB hi * 16777216)):Calls Tryz.prog 71 #[vIv lo hi] w (RetV (.tuple #[vIv r (upS s (crB hi * 16777216)),.int .i64 0]) w):=by
 obtain ⟨a1,a2,a3⟩:=cr_in h0 h h1
 obtain ⟨b1,b2,b3⟩:=sq_rng h0 h h1
 obtain ⟨c1,c2,c3,c4,c5⟩:=dv_in b1 b2
 have V:=fun w=>itValid_any lo hi w (by omega) h (by omega)
 have g:decide (lo<(16777216:Int))=false:=decide_eq_false (by omega)
 have Q:=fun b w hB=>rf_Square lo hi (sqL lo) (sqH hi) b w hB (fun w=>itSquare_any lo hi w h0 h h1)
 have U:=rfunit_any
 have D:=fun b w hB=>rf_Div 16777216 16777216 (sqL lo) (sqH hi) (dvL (sqH hi)) (dvH (sqL lo)) b w hB (fun w=>itDiv_any (sqL lo) (sqH hi) w b1 b2 (by omega))
 have S:=fun b w hB=>rf_Sub 16777216 16777216 (dvL (sqH hi)) (dvH (sqL lo)) (crA lo) (crB hi) b w hB (fun w=>itSub_any 16777216 16777216 (dvL (sqH hi)) (dvH (sqL lo)) w (by omega) (by omega) (by omega) (by omega) (by omega) (by omega) (by omega) (by omega))
 have R:=fun b w hB=>rf_Sqrt (crA lo) (crB hi) r (upS s (crB hi * 16777216)) b w hB (fun w=>itSqrt_any (crA lo) (crB hi) r s w a1 a2 a3 hr hs)
 generalize upS s (crB hi * 16777216)=u at *
 clear hr hs
 generalize crA lo=ca at *
 generalize crB hi=cb at *
 generalize dvL (sqH hi)=l at *
 generalize dvH (sqL lo)=k at *
 generalize sqL lo=c at *
 generalize sqH hi=d at *
 exact vm_pure kr Tryz.func71 rfl [vIv lo hi] nle [] [.f,(.p _ false g),.f] [cV (V),cU 12 137 (#[.int .i64 0]) (#[.int .i64 0]) (fun b w hC hB=>Q b w hB),cV (U),cV (U),cU 12 137 (#[.int .i64 0]) (#[.int .i64 0]) (fun b w hC hB=>D b w hB),cU 12 137 (#[.int .i64 0]) (#[.int .i64 0]) (fun b w hC hB=>S b w hB),cU 12 137 (#[.int .i64 0]) (#[.int .i64 0]) (fun b w hC hB=>R b w hB)]
theorem rgCritical_any (lo hi r s:Int) (w:World) (h0:16777216≤lo) (h:lo≤hi) (h1:hi≤67108864) (hr:IsRt r (crA lo * 16777216)) (hs:IsRt s (crB hi * 16777216)):Calls Tryz.prog 72 #[vIv lo hi] w (RetV (.tuple #[vIv r (upS s (crB hi * 16777216)),.int .i64 0]) w):=by
 obtain ⟨a1,a2,a3⟩:=cr_in h0 h h1
 obtain ⟨b1,b2,b3⟩:=sq_rng h0 h h1
 obtain ⟨c1,c2,c3,c4,c5⟩:=dv_in b1 b2
 have V:=fun w=>iuValid_any lo hi w (by omega) h (by omega)
 have g:decide (lo<(16777216:Int))=false:=decide_eq_false (by omega)
 have Q:=fun b w hB=>rh_Square lo hi (sqL lo) (sqH hi) b w hB (fun w=>iuSquare_any lo hi w h0 h h1)
 have U:=rhOne_any
 have D:=fun b w hB=>rh_Div 16777216 16777216 (sqL lo) (sqH hi) (dvL (sqH hi)) (dvH (sqL lo)) b w hB (fun w=>iuDiv_any (sqL lo) (sqH hi) w b1 b2 (by omega))
 have S:=fun b w hB=>rh_Sub 16777216 16777216 (dvL (sqH hi)) (dvH (sqL lo)) (crA lo) (crB hi) b w hB (fun w=>iuSub_any 16777216 16777216 (dvL (sqH hi)) (dvH (sqL lo)) w (by omega) (by omega) (by omega) (by omega) (by omega) (by omega) (by omega) (by omega))
 have R:=fun w=>iuSqrt_any (crA lo) (crB hi) r s w a1 a2 a3 hr hs
 generalize upS s (crB hi * 16777216)=u at *
 clear hr hs
 generalize crA lo=ca at *
 generalize crB hi=cb at *
 generalize dvL (sqH hi)=l at *
 generalize dvH (sqL lo)=k at *
 generalize sqL lo=c at *
 generalize sqH hi=d at *
 exact vm_pure kr Tryz.func72 rfl [vIv lo hi] nle [] [.f,(.p _ false g),.f] [cV (V),cV (U),cV (U),cU 10 144 (#[.int .i64 0]) (#[.int .i64 0]) (fun b w hC hB=>Q b w hB),cU 10 144 (#[.int .i64 0]) (#[.int .i64 0]) (fun b w hC hB=>D b w hB),cU 10 144 (#[.int .i64 0]) (#[.int .i64 0]) (fun b w hC hB=>S b w hB),cV (R)]
end Go.Proofs.YtlhddcingeneaaaGreatDoor
