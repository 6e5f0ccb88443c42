/- A printed table parses back; answers with slices (nil, or a block of the call's own). -/
import Derived.Test.YtlhddcingeneaaaGreatDoorPSGemU
import Derived.Test.YtlhddcingeneaaaGreatDoorPSY
namespace Go.Proofs.YtlhddcingeneaaaGreatDoor
open Go Go.RowKit
set_option linter.unusedVariables false
set_option linter.unusedSimpArgs false
theorem tw_each {p:UInt8→Bool}:∀ {l:List UInt8},(l.takeWhile p).length=l.length→∀ c,c ∈ l→p c=true
 | [],_,c,h=>by cases h
 | x :: l,h,c,hc=>by
  cases hx:p x with
  | false=>rw [List.takeWhile_cons,hx] at h;simp at h
  | true =>
   rw [List.takeWhile_cons,hx] at h
   simp only [if_true,List.length_cons,Nat.add_right_cancel_iff] at h
   rcases List.mem_cons.1 hc with rfl | hc
   ·exact hx
   ·exact tw_each h c hc
theorem nm_sp {m:Mt} (h:rightM m=true):∀ c,c ∈ m.nm→c≠32:=by
 unfold rightM at h
 simp only [Bool.and_eq_true] at h
 have hn:=h.1.1.1.1.1.1
 rw [isNm_eq] at hn
 simp only [Bool.and_eq_true,beq_iff_eq] at hn
 have hw:=hn.1.2
 intro c hc e
 subst e
 cases hl:m.nm with
 | nil=>rw [hl] at hc;cases hc
 | cons x r =>
  rw [hl] at hw hc
  rw [wordN_cons] at hw
  split at hw
  ·exact absurd (tw_each hw 32 hc) (by decide)
  ·simp at hw
theorem dg_sp:∀ (k:Nat) (c:UInt8),c ∈ dgN k→c≠32:=by
 intro k
 induction k using Nat.strongRecOn with
 | _ k ih =>
  intro c hc
  by_cases h:0<k
  ·rw [dgN_step h] at hc
   rcases List.mem_append.1 hc with hc | hc
   ·exact ih (k / 10) (by omega) c hc
   ·rw [List.mem_singleton] at hc
    intro e
    rw [hc] at e
    have:=congrArg UInt8.toNat e
    rw [UInt8.toNat_ofNat_of_lt' (by show _<256;omega)] at this
    have h32:(32:UInt8).toNat=32:=rfl
    omega
  ·obtain rfl:k=0:=by omega
   cases hc
theorem spl_txt {m:Mt} (h:rightM m=true):spl (txtM m) = [m.nm,dgN m.d.toNat,dgN m.i.toNat,dgN m.h.toNat]:=by
 have e:txtM m=m.nm++32 :: (dgN m.d.toNat++32 :: (dgN m.i.toNat++32 :: dgN m.h.toNat)):=by unfold txtM;simp
 rw [e,spl_at _ _ (nm_sp h),spl_at _ _ (dg_sp _),spl_at _ _ (dg_sp _),spl_no _ (dg_sp _)]
theorem num_dg {z:Int} (h1:1≤z) (h2:z≤99999):okV (dgN z.toNat)=true∧numV (dgN z.toNat)=z:=by
 have hr:numR (dgN z.toNat)=z:=by
  unfold numR
  rw [if_pos (dgN_short 5 _ (by omega)),decFrom_dg]
  simp only [if_true]
  omega
 obtain ⟨a,b⟩:=num_no (s:=dgN z.toNat) (by omega)
 exact ⟨a,by omega⟩
theorem line_txt {m:Mt} (h:rightM m=true):lineM (txtM m)=(m,true):=by
 unfold lineM
 rw [spl_txt h]
 have hb:=right_bd h
 obtain ⟨a1,a2⟩:=num_dg hb.1.1 (by omega)
 obtain ⟨b1,b2⟩:=num_dg hb.2.1.1 (by omega)
 obtain ⟨c1,c2⟩:=num_dg hb.2.2.1 (by omega)
 simp only [a1,a2,b1,b2,c1,c2,Bool.true_and]
 rw [show (⟨m.nm,m.d,m.i,m.h⟩:Mt)=m from rfl,h]
theorem parT_txt:∀ (l:List Mt) (p:Option (List UInt8)) (acc:List Mt) (i:Nat),okFrom p l=true→parT p acc i (l.map txtM)=(acc++l,0,0)
 | [],p,acc,i,_=>by rw [List.map_nil,parT,List.append_nil]
 | m :: l,p,acc,i,h=>by
  unfold okFrom at h
  rw [Bool.and_eq_true,Bool.and_eq_true] at h
  rw [List.map_cons,parT,line_txt h.1.1]
  simp only [if_true]
  have hg:geqP p m.nm=false:=by
   have h2:=h.1.2
   unfold geqP
   cases p with
   | none=>rfl
   | some q=>simp only at h2 ⊢;rw [h2];rfl
  rw [hg,if_neg (by decide),parT_txt l _ _ _ h.2,List.append_assoc]
  rfl
theorem parse_print {l:List Mt} (h:validT l=true):parseT (l.map txtM)=(l,0,0):=by
 unfold validT at h
 rw [Bool.and_eq_true,decide_eq_true_eq] at h
 unfold parseT
 rw [if_neg (by rw [List.length_map];omega),parT_txt l _ _ _ h.1,List.nil_append]
theorem txt_len {m:Mt} (h:rightM m=true):(txtM m).length≤1000000:=by
 have hb:=right_bd h
 unfold rightM at h
 simp only [Bool.and_eq_true] at h
 have hn:=h.1.1.1.1.1.1
 rw [isNm_eq] at hn
 simp only [Bool.and_eq_true,decide_eq_true_eq] at hn
 have h3:=hn.1.1.2
 unfold txtM
 have:=dgN_len m.d.toNat
 have:=dgN_len m.i.toNat
 have:=dgN_len m.h.toNat
 simp only [List.length_append,List.length_singleton]
 omega
theorem par_len:∀ (ls:List (List UInt8)) (p:Option (List UInt8)) (acc:List Mt) (i:Nat),(parT p acc i ls).1.length≤acc.length+ls.length
 | [],p,acc,i=>by rw [parT];simp
 | l :: r,p,acc,i=>by
  rw [parT]
  split
  ·split
   ·simp
   ·refine Nat.le_trans (par_len r _ _ _) ?_
    simp;omega
  ·simp
theorem parse_len (ls:List (List UInt8)):(parseT ls).1.length≤ls.length:=by
 unfold parseT
 split
 ·exact Nat.zero_le _
 ·exact Nat.le_trans (par_len ls _ _ _) (by simp)
theorem pa_nil {f:FuncId} {args:Array Value} {i:Nat} {e:Int} {w:World} (h:Calls Tryz.prog f args w (RetPa ([],i,e) w)):Calls Tryz.prog f args w (RetV (.tuple #[.slice none 0 0,.int .i64 (i:Int),.int .i64 e]) w):=by
 refine Calls.mono h ?_
 rintro r w' ⟨sv,rfl,hs,hb⟩
 rcases hs with ⟨-,-,rfl⟩ | ⟨b,m,h0,-⟩
 ·exact ⟨rfl,hb⟩
 ·exact absurd h0 (Nat.lt_irrefl 0)
theorem pa_new {f:FuncId} {args:Array Value} {A:List Mt} {i:Nat} {e:Int} {w:World} (hA:A ≠ []) (h:Calls Tryz.prog f args w (RetPa (A,i,e) w)):Calls Tryz.prog f args w (fun r w'=>∃ n m,w.heap.size≤n∧r = .returned (.tuple #[.slice (some ⟨n,0,none⟩) A.length (A.length+m),.int .i64 (i:Int),.int .i64 e])∧Hc w' n 23 (encM A++zc zMc m).toArray∧Below w.heap.size w w'):=by
 refine Calls.mono h ?_
 rintro r w' ⟨sv,rfl,hs,hb⟩
 rcases hs with ⟨h0,-⟩ | ⟨b,m,-,rfl,h1,h2⟩
 ·exact absurd (List.eq_nil_of_length_eq_zero h0) hA
 ·exact ⟨b,m,h1,rfl,h2,hb⟩
end Go.Proofs.YtlhddcingeneaaaGreatDoor
