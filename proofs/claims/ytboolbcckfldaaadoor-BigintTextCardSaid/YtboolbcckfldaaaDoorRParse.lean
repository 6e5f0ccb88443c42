import Derived.Test.YtboolbcckfldaaaDoorParse
namespace Go.Proofs.YtboolbcckfldaaaDoor
open Go.RowKit
set_option linter.unusedVariables false
set_option linter.unusedSimpArgs false

theorem RP_len (t : ByteArray) (i : Nat) (hi : i ≤ 400) (hd : ∀ j, j < i → digAt t j ≤ 9) : (digs 16777216 (numAt t i * 10)).length ≤ 401 := by
  have h := digs_length_le (B := 16777216) (k := i + 1) (n := numAt t i * 10) (by decide) (Nat.lt_of_lt_of_le (by
    have h1 := numAt_lt t i hd
    rw [Nat.pow_succ]
    omega) (Nat.pow_le_pow_left (show 10 ≤ 16777216 by decide) (i + 1)))
  omega
theorem RP_mul (A : Option Addr) (c b n : Nat) (W : World) (h1 : RdAt W .i64 A (digs 16777216 n)) (h2 : RdAt W .i64 (some ⟨b, 0, none⟩) [10]) (hl : (digs 16777216 n).length ≤ 400) :
    Calls Tryd.prog 60 #[.slice A (digs 16777216 n).length c, .slice (some ⟨b, 0, none⟩) 1 1] W (RetD .i64 16777216 (n * 10) W) := by
  have e := digs_ten (M := 16777216) (by decide)
  have h := Rtimes_any A (some ⟨b, 0, none⟩) c 1 n 10 W h1 (by rw [e]; exact h2) (by omega) (by rw [e]; decide)
  rw [e] at h
  exact h
theorem RP_trim (b dv : Nat) (W : World) (hd9 : dv ≤ 9) (h1 : RdAt W .i64 (some ⟨b, 0, none⟩) [dv]) :
    Calls Tryd.prog 62 #[.slice (some ⟨b, 0, none⟩) 1 1] W (fun e w' => e = .returned (.slice (some ⟨b, 0, none⟩) (digs 16777216 dv).length 1) ∧ Below W.heap.size W w') :=
  (Rtrim_any (some ⟨b, 0, none⟩) 1 1 [dv] W (Lib.hid rfl) (Lib.hid h1) (by omega) (by omega)).mono (by
    rintro e w' ⟨rfl, rfl⟩
    exact ⟨by rw [trimL_dig (M := 16777216) (by decide) hd9], Below.refl _ _⟩)
theorem RP_add (P : Option Addr) (cp b p dv r : Nat) (W : World) (hd9 : dv ≤ 9) (h1 : RdAt W .i64 P (digs 16777216 p)) (h2 : (digs 16777216 p).length ≤ cp) (h3 : RdAt W .i64 (some ⟨b, 0, none⟩) [dv]) (hl : (digs 16777216 p).length ≤ 401) (hr : r = p + dv) :
    Calls Tryd.prog 61 #[.slice P (digs 16777216 p).length cp, .slice (some ⟨b, 0, none⟩) (digs 16777216 dv).length 1] W (RetD .i64 16777216 r W) := by
  have hl1 : (digs 16777216 dv).length ≤ 1 := digs_length_le (by decide) (by omega)
  have h := Rplus_any P (some ⟨b, 0, none⟩) cp 1 p dv W h1 (by rw [← trimL_dig (M := 16777216) (by decide) hd9]; exact h3.trimL) (by omega) (by omega) h2 hl1
  rw [hr]
  exact h

set_option maxHeartbeats 4000000 in
set_option maxRecDepth 100000 in
theorem RParse_neg (s : ByteArray) (w : World) (t : ByteArray) (h0s : 0 < s.size) (h45 : (s[0]'h0s).toNat = 45) (ht : t = s.extract 1 s.size) (hts : t.size + 1 = s.size) (h0 : 0 < t.size) (h48 : ¬ (t[0]'h0).toNat = 48) (hd : AllD t) (hl : (t).size ≤ 400) :
    Calls Tryd.prog 31 #[.string s] w (RetIE (sgnd true (numAt t (t).size)) 0 w) := by
  have HD := Lib.hid hd
  clear hd
  have hl' : ¬ (400 : Int) < (t).size := by omega
  obtain ⟨e1, e2⟩ := str_full h0s
  have hsz : (1 : Int) ≤ s.size := by omega
  have hlt : (t.size : Int) < s.size := by omega
  go_enter Tryd.func31, Tryd.ntmps31
  go_wp2_with fail
  have t2 := Ob.new (w) 23 #[.bool false, .string ⟨#[]⟩]
  have bl := ((Below.refl w.heap.size w).alloc (Nat.le_refl _) (.cells #[.bool false, .string ⟨#[]⟩] 23))
  try simp only [World.size_alloc] at t2
  generalize World.alloc w _ = W1 at t2 bl ⊢
  rw [← ht]
  clear ht h45 e1 e2
  obtain ⟨e1, e2⟩ := str_full h0
  go_loopw [5] (fun v5 wr => ∃ i : Nat, i ≤ (t).size ∧ v5 = .int .i64 i ∧ Ob wr w.heap.size 23 #[.bool false, .string ⟨#[]⟩] ∧ Below w.heap.size w wr) (fun v5 _ => (t).size - (intOf v5).toNat)
  case atStart => exact ⟨0, by omega, rfl, t2, bl⟩
  case round =>
    clear t2 bl
    obtain ⟨i, hi, rfl, t2, bl⟩ := hrel
    by_cases hil : i < (t).size
    · obtain ⟨c1, c2⟩ := HD.out i hil
      have c1' : ¬ ((t[i].toNat : Nat) : Int) < 48 := by omega
      have c2' : ¬ (57 : Int) < ((t[i].toNat : Nat) : Int) := by omega
      go_wp2_with fail
      go_roundw
      case rel => exact ⟨i + 1, by omega, by go_num, t2, bl⟩
      case measure => simp [intOf]; omega
    · obtain rfl : i = (t).size := by omega
      skip
      go_wp2_with fail
      go_loopw [6, 7] (fun v6 v7 wr => ∃ (i : Nat) (A : Option Addr) (c : Nat), i ≤ (t).size ∧ v7 = .int .i64 i ∧ v6 = .slice A (digs 16777216 (numAt t i)).length c ∧ (digs 16777216 (numAt t i)).length ≤ c ∧ Hid (RdAt wr .i64 A (digs 16777216 (numAt t i))) ∧ Ob wr w.heap.size 23 #[.bool false, .string ⟨#[]⟩] ∧ Below w.heap.size w wr) (fun _ v7 _ => (t).size - (intOf v7).toNat)
      case atStart => exact ⟨0, none, 0, by omega, rfl, by rw [numAt, digs_zero]; rfl, by rw [numAt, digs_zero]; exact Nat.le_refl _, Lib.hid (by rw [numAt, digs_zero]; exact RdAt.nil _ _ _), t2, bl⟩
      case round =>
        clear t2 bl
        obtain ⟨i, A, c, hi, rfl, rfl, hc, hr, t2, bl⟩ := hrel
        have hlen : (digs 16777216 (numAt t i)).length ≤ 400 := Nat.le_trans (numAt_len _ (by decide) t i (fun j _ => HD.out.dig j)) (by omega)
        by_cases hil : i < (t).size
        · obtain ⟨c1, c2⟩ := HD.out i hil
          obtain ⟨dv, hdv⟩ : ∃ d, d = digAt t i := ⟨_, rfl⟩
          have hdt : digAt t i = t[i].toNat - 48 := by unfold digAt; rw [dif_pos hil]
          have hd9 : dv ≤ 9 := by omega
          have hlen2 := RP_len t i (by omega) (fun j _ => HD.out.dig j)
          have HMUL := fun (A : Option Addr) c b W h1 h2 => Lib.hid (RP_mul A c b (numAt t i) W h1 h2 hlen)
          have HTRM := fun b W h1 => Lib.hid (RP_trim b dv W hd9 h1)
          have HADD := fun (P : Option Addr) cp b W h1 h2 h3 => Lib.hid (RP_add P cp b (numAt t i * 10) dv (numAt t (i + 1)) W hd9 h1 h2 h3 hlen2 (by rw [hdv]; rfl))
          have q1 : IntKind.u8.wrap (((t[i].toNat : Nat) : Int) - 48) = (dv : Int) := by rw [show ((t[i].toNat : Nat) : Int) - 48 = (dv : Int) from by omega]; exact wrb8 (by omega) (by omega)
          have q2 : IntKind.i64.wrap (dv : Int) = (dv : Int) := wr64 (by omega) (by omega)
          have i1 : (0 : Int) ≤ (i : Int) := by omega
          have i2 : (i : Int) < (t).size := by omega
          have HDV := Lib.hid hdv
          clear hdv hdt
          go_wp2_with fail
          refine region_tr (CB wr) 11 (.look 0 (.look 3 (.look 4 (.look 5 (.look 6 (.look 7 (.two 1 8 (.two 2 8 (.one 8 (.one 9 (.one 10 .nil))) (.one 2 (.one 9 (.one 10 .nil)))) (.one 1 (.one 2 (.one 9 (.one 10 .nil))))))))))) (by kernel_rfl) (by kernel_rfl) (CB.drew0 wr) ?_
          refine wpTr.eye _ (.slice A (digs 16777216 (numAt t i)).length c) rfl (by kernel_rfl) (by intro w' hC; go_simp) ?_
          try simp only [Act.put, List.setIfInBounds_toArray, List.set_cons_zero, List.set_cons_succ]
          refine wpTr.eye _ (.string t) rfl (by kernel_rfl) (by intro w' hC; go_simp) ?_
          try simp only [Act.put, List.setIfInBounds_toArray, List.set_cons_zero, List.set_cons_succ]
          refine wpTr.eye _ (.int .i64 i) rfl (by kernel_rfl) (by intro w' hC; go_simp) ?_
          try simp only [Act.put, List.setIfInBounds_toArray, List.set_cons_zero, List.set_cons_succ]
          refine wpTr.eye _ (.int .u8 ((t[i]'hil).toNat : Nat)) rfl (by kernel_rfl) (by intro w' hC; go_simp) ?_
          try simp only [Act.put, List.setIfInBounds_toArray, List.set_cons_zero, List.set_cons_succ]
          refine wpTr.eye _ (.int .u8 (dv : Nat)) rfl (by kernel_rfl) (by intro w' hC; go_simp) ?_
          try simp only [Act.put, List.setIfInBounds_toArray, List.set_cons_zero, List.set_cons_succ]
          refine wpTr.eye _ (.int .i64 (dv : Nat)) rfl (by kernel_rfl) (by intro w' hC; go_simp) ?_
          try simp only [Act.put, List.setIfInBounds_toArray, List.set_cons_zero, List.set_cons_succ]
          clear q1 q2 i1 i2
          have hS := CB.drew0 wr
          have hr := Lib.hid (hr.out.below ((Below.refl wr.heap.size wr).drew))
          have t2 := t2.below ((Below.refl wr.heap.size wr).drew) t2.lt
          have bl := bl.trans (Below.mono ((Below.refl wr.heap.size wr).drew) bl.size)
          generalize World.drew wr = V0 at hS hr t2 bl ⊢
          refine wpTr.do2 ?_ ?_
          focus
            refine wpTr.do1 _ rfl (fun K hK => ?_)
            go_simp
            have hS2 := hS.step ((Below.refl V0.heap.size V0).alloc (Nat.le_refl _) (.cells #[.int .i64 (10 : Nat)] 3))
            refine hK.out _ _ hS2 ?_
            clear hK K
            have hT := Lib.hid (rd_cell (Ob.new V0 3 #[.int .i64 (10 : Nat)]))
            have hA := (Below.refl V0.heap.size V0).alloc (Nat.le_refl _) (.cells #[.int .i64 (10 : Nat)] 3)
            have hr := Lib.hid (hr.out.below hA)
            have t2 := t2.below hA t2.lt
            have bl := bl.trans (Below.mono hA bl.size)
            have hS := hS2
            clear hS2 hA
            generalize hbn : V0.heap.size = bhT at *
            clear hbn
            generalize World.alloc V0 _ = V1 at *
            try simp only [Act.put, List.setIfInBounds_toArray, List.set_cons_zero, List.set_cons_succ]
            refine wpTr.do2 ?_ ?_
            focus
              refine wpTr.do1 _ rfl (fun K hK => ?_)
              go_simp
              refine (HMUL A c bhT V1 hr.out hT.out).out.mono ?_
              rintro e V2 ⟨P, cp, rfl, hcp, hP0, hb⟩
              have hS2 := hS.step hb
              dsimp only
              refine hK.out _ _ hS2 ?_
              clear hK K
              have t2 := t2.below hb t2.lt
              have bl := bl.trans (Below.mono hb bl.size)
              have hS := hS2
              clear hS2 hb
              try simp only [Act.put, List.setIfInBounds_toArray, List.set_cons_zero, List.set_cons_succ]
              have hP := Lib.hid hP0
              have hCP := Lib.hid hcp
              clear hP0 hcp
              refine wpTr.do1 _ rfl (fun K hK => ?_)
              go_simp
              have hS2 := hS.step ((Below.refl V2.heap.size V2).alloc (Nat.le_refl _) (.cells #[.int .i64 (dv : Nat)] 3))
              refine hK.out _ _ hS2 ?_
              clear hK K
              have hD := Lib.hid (rd_cell (Ob.new V2 3 #[.int .i64 (dv : Nat)]))
              have hA := (Below.refl V2.heap.size V2).alloc (Nat.le_refl _) (.cells #[.int .i64 (dv : Nat)] 3)
              have hP := Lib.hid (hP.out.below hA)
              have t2 := t2.below hA t2.lt
              have bl := bl.trans (Below.mono hA bl.size)
              have hS := hS2
              clear hS2 hA
              generalize hbn : V2.heap.size = bhD at *
              clear hbn
              generalize World.alloc V2 _ = V3 at *
              try simp only [Act.put, List.setIfInBounds_toArray, List.set_cons_zero, List.set_cons_succ]
              refine wpTr.do1 _ rfl (fun K hK => ?_)
              go_simp
              refine (HTRM bhD V3 hD.out).out.mono ?_
              rintro e V4 ⟨rfl, hb⟩
              have hS2 := hS.step hb
              dsimp only
              refine hK.out _ _ hS2 ?_
              clear hK K
              have hP := Lib.hid (hP.out.below hb)
              have hD := Lib.hid (hD.out.below hb)
              have t2 := t2.below hb t2.lt
              have bl := bl.trans (Below.mono hb bl.size)
              have hS := hS2
              clear hS2 hb
              try simp only [Act.put, List.setIfInBounds_toArray, List.set_cons_zero, List.set_cons_succ]
              refine wpTr.do1 _ rfl (fun K hK => ?_)
              go_simp
              refine (HADD P cp bhD V4 hP.out hCP.out (Lib.hid hD.out).out).out.mono ?_
              rintro e V5 ⟨R, cr, rfl, hcr, hR0, hb⟩
              have hS2 := hS.step hb
              dsimp only
              refine hK.out _ _ hS2 ?_
              clear hK K
              have t2 := t2.below hb t2.lt
              have bl := bl.trans (Below.mono hb bl.size)
              have hS := hS2
              clear hS2 hb
              try simp only [Act.put, List.setIfInBounds_toArray, List.set_cons_zero, List.set_cons_succ]
              have hR := Lib.hid hR0
              clear hR0
              simp only [wpTr, List.drop_succ_cons, List.drop_zero]
              go_wp2_with fail
              refine NoPanic.normal ?_
              go_wp2_with fail
              go_roundw
              case rel => exact ⟨i + 1, R, cr, by omega, by go_num, rfl, hcr, hR, t2, bl⟩
              case measure => simp [intOf]; omega
            focus
              refine wpTr.do1 _ rfl (fun K hK => ?_)
              go_simp
              have hS2 := hS.step ((Below.refl V1.heap.size V1).alloc (Nat.le_refl _) (.cells #[.int .i64 (dv : Nat)] 3))
              refine hK.out _ _ hS2 ?_
              clear hK K
              have hD := Lib.hid (rd_cell (Ob.new V1 3 #[.int .i64 (dv : Nat)]))
              have hA := (Below.refl V1.heap.size V1).alloc (Nat.le_refl _) (.cells #[.int .i64 (dv : Nat)] 3)
              have hr := Lib.hid (hr.out.below hA)
              have hT := Lib.hid (hT.out.below hA)
              have t2 := t2.below hA t2.lt
              have bl := bl.trans (Below.mono hA bl.size)
              have hS := hS2
              clear hS2 hA
              generalize hbn : V1.heap.size = bhD at *
              clear hbn
              generalize World.alloc V1 _ = V6 at *
              try simp only [Act.put, List.setIfInBounds_toArray, List.set_cons_zero, List.set_cons_succ]
              refine wpTr.do1 _ rfl (fun K hK => ?_)
              go_simp
              refine (HMUL A c bhT V6 hr.out hT.out).out.mono ?_
              rintro e V7 ⟨P, cp, rfl, hcp, hP0, hb⟩
              have hS2 := hS.step hb
              dsimp only
              refine hK.out _ _ hS2 ?_
              clear hK K
              have hD := Lib.hid (hD.out.below hb)
              have t2 := t2.below hb t2.lt
              have bl := bl.trans (Below.mono hb bl.size)
              have hS := hS2
              clear hS2 hb
              try simp only [Act.put, List.setIfInBounds_toArray, List.set_cons_zero, List.set_cons_succ]
              have hP := Lib.hid hP0
              have hCP := Lib.hid hcp
              clear hP0 hcp
              refine wpTr.do1 _ rfl (fun K hK => ?_)
              go_simp
              refine (HTRM bhD V7 hD.out).out.mono ?_
              rintro e V8 ⟨rfl, hb⟩
              have hS2 := hS.step hb
              dsimp only
              refine hK.out _ _ hS2 ?_
              clear hK K
              have hP := Lib.hid (hP.out.below hb)
              have hD := Lib.hid (hD.out.below hb)
              have t2 := t2.below hb t2.lt
              have bl := bl.trans (Below.mono hb bl.size)
              have hS := hS2
              clear hS2 hb
              try simp only [Act.put, List.setIfInBounds_toArray, List.set_cons_zero, List.set_cons_succ]
              refine wpTr.do1 _ rfl (fun K hK => ?_)
              go_simp
              refine (HADD P cp bhD V8 hP.out hCP.out (Lib.hid hD.out).out).out.mono ?_
              rintro e V9 ⟨R, cr, rfl, hcr, hR0, hb⟩
              have hS2 := hS.step hb
              dsimp only
              refine hK.out _ _ hS2 ?_
              clear hK K
              have t2 := t2.below hb t2.lt
              have bl := bl.trans (Below.mono hb bl.size)
              have hS := hS2
              clear hS2 hb
              try simp only [Act.put, List.setIfInBounds_toArray, List.set_cons_zero, List.set_cons_succ]
              have hR := Lib.hid hR0
              clear hR0
              simp only [wpTr, List.drop_succ_cons, List.drop_zero]
              go_wp2_with fail
              refine NoPanic.normal ?_
              go_wp2_with fail
              go_roundw
              case rel => exact ⟨i + 1, R, cr, by omega, by go_num, rfl, hcr, hR, t2, bl⟩
              case measure => simp [intOf]; omega
          focus
            refine wpTr.do1 _ rfl (fun K hK => ?_)
            go_simp
            have hS2 := hS.step ((Below.refl V0.heap.size V0).alloc (Nat.le_refl _) (.cells #[.int .i64 (dv : Nat)] 3))
            refine hK.out _ _ hS2 ?_
            clear hK K
            have hD := Lib.hid (rd_cell (Ob.new V0 3 #[.int .i64 (dv : Nat)]))
            have hA := (Below.refl V0.heap.size V0).alloc (Nat.le_refl _) (.cells #[.int .i64 (dv : Nat)] 3)
            have hr := Lib.hid (hr.out.below hA)
            have t2 := t2.below hA t2.lt
            have bl := bl.trans (Below.mono hA bl.size)
            have hS := hS2
            clear hS2 hA
            generalize hbn : V0.heap.size = bhD at *
            clear hbn
            generalize World.alloc V0 _ = V10 at *
            try simp only [Act.put, List.setIfInBounds_toArray, List.set_cons_zero, List.set_cons_succ]
            refine wpTr.do1 _ rfl (fun K hK => ?_)
            go_simp
            have hS2 := hS.step ((Below.refl V10.heap.size V10).alloc (Nat.le_refl _) (.cells #[.int .i64 (10 : Nat)] 3))
            refine hK.out _ _ hS2 ?_
            clear hK K
            have hT := Lib.hid (rd_cell (Ob.new V10 3 #[.int .i64 (10 : Nat)]))
            have hA := (Below.refl V10.heap.size V10).alloc (Nat.le_refl _) (.cells #[.int .i64 (10 : Nat)] 3)
            have hr := Lib.hid (hr.out.below hA)
            have hD := Lib.hid (hD.out.below hA)
            have t2 := t2.below hA t2.lt
            have bl := bl.trans (Below.mono hA bl.size)
            have hS := hS2
            clear hS2 hA
            generalize hbn : V10.heap.size = bhT at *
            clear hbn
            generalize World.alloc V10 _ = V11 at *
            try simp only [Act.put, List.setIfInBounds_toArray, List.set_cons_zero, List.set_cons_succ]
            refine wpTr.do1 _ rfl (fun K hK => ?_)
            go_simp
            refine (HMUL A c bhT V11 hr.out hT.out).out.mono ?_
            rintro e V12 ⟨P, cp, rfl, hcp, hP0, hb⟩
            have hS2 := hS.step hb
            dsimp only
            refine hK.out _ _ hS2 ?_
            clear hK K
            have hD := Lib.hid (hD.out.below hb)
            have t2 := t2.below hb t2.lt
            have bl := bl.trans (Below.mono hb bl.size)
            have hS := hS2
            clear hS2 hb
            try simp only [Act.put, List.setIfInBounds_toArray, List.set_cons_zero, List.set_cons_succ]
            have hP := Lib.hid hP0
            have hCP := Lib.hid hcp
            clear hP0 hcp
            refine wpTr.do1 _ rfl (fun K hK => ?_)
            go_simp
            refine (HTRM bhD V12 hD.out).out.mono ?_
            rintro e V13 ⟨rfl, hb⟩
            have hS2 := hS.step hb
            dsimp only
            refine hK.out _ _ hS2 ?_
            clear hK K
            have hP := Lib.hid (hP.out.below hb)
            have hD := Lib.hid (hD.out.below hb)
            have t2 := t2.below hb t2.lt
            have bl := bl.trans (Below.mono hb bl.size)
            have hS := hS2
            clear hS2 hb
            try simp only [Act.put, List.setIfInBounds_toArray, List.set_cons_zero, List.set_cons_succ]
            refine wpTr.do1 _ rfl (fun K hK => ?_)
            go_simp
            refine (HADD P cp bhD V13 hP.out hCP.out (Lib.hid hD.out).out).out.mono ?_
            rintro e V14 ⟨R, cr, rfl, hcr, hR0, hb⟩
            have hS2 := hS.step hb
            dsimp only
            refine hK.out _ _ hS2 ?_
            clear hK K
            have t2 := t2.below hb t2.lt
            have bl := bl.trans (Below.mono hb bl.size)
            have hS := hS2
            clear hS2 hb
            try simp only [Act.put, List.setIfInBounds_toArray, List.set_cons_zero, List.set_cons_succ]
            have hR := Lib.hid hR0
            clear hR0
            simp only [wpTr, List.drop_succ_cons, List.drop_zero]
            go_wp2_with fail
            refine NoPanic.normal ?_
            go_wp2_with fail
            go_roundw
            case rel => exact ⟨i + 1, R, cr, by omega, by go_num, rfl, hcr, hR, t2, bl⟩
            case measure => simp [intOf]; omega
        · obtain rfl : i = (t).size := by omega
          have HW := Lib.hid (Rsigned_d A c (numAt t (t).size) true wr hr.out (by omega))
          skip
          go_wp2_with fail
          refine (HW.out).mono ?_
          rintro e W1 ⟨rfl, hb⟩
          have t2 := t2.below hb t2.lt
          have bl := bl.trans (Below.mono hb bl.size)
          clear hb
          try simp only [ptr, Act.put, List.setIfInBounds_toArray, List.set_cons_zero, List.set_cons_succ]
          have fr2 := t2.free
          obtain ⟨z2_0, z2_1⟩ := t2.cells2
          go_wp2_with fail
          clear fr2 z2_0 z2_1
          have t2 := t2.set2 (.bool (sg (sgnd true (numAt t (t).size)))) (.string (mg (sgnd true (numAt t (t).size))))
          have bl := (below_set (below_set bl (show w.heap.size ≤ w.heap.size by omega) 0 (.bool (sg (sgnd true (numAt t (t).size))))) (show w.heap.size ≤ w.heap.size by omega) 1 (.string (mg (sgnd true (numAt t (t).size)))))
          generalize World.setCell (World.setCell W1 _ _) _ _ = W2 at t2 bl ⊢
          obtain ⟨r2_0, r2_1⟩ := t2.cells2
          exact bodyPost_ret (v := .tuple #[vI (sgnd true (numAt t (t).size)), .int .i64 0]) (by simp [results, Tryd.results31, go_sem, r2_0, r2_1]) rfl (⟨rfl, bl⟩)
set_option maxHeartbeats 4000000 in
set_option maxRecDepth 100000 in
theorem RParse_pos (s : ByteArray) (w : World) (h0 : 0 < s.size) (h45 : ¬ (s[0]'h0).toNat = 45) (h48 : ¬ (s[0]'h0).toNat = 48) (hd : AllD s) (hl : (s).size ≤ 400) :
    Calls Tryd.prog 31 #[.string s] w (RetIE (sgnd false (numAt s (s).size)) 0 w) := by
  have HD := Lib.hid hd
  clear hd
  have hl' : ¬ (400 : Int) < (s).size := by omega
  obtain ⟨e1, e2⟩ := str_full h0
  go_enter Tryd.func31, Tryd.ntmps31
  go_wp2_with fail
  have t2 := Ob.new (w) 23 #[.bool false, .string ⟨#[]⟩]
  have bl := ((Below.refl w.heap.size w).alloc (Nat.le_refl _) (.cells #[.bool false, .string ⟨#[]⟩] 23))
  try simp only [World.size_alloc] at t2
  generalize World.alloc w _ = W1 at t2 bl ⊢
  clear h45
  go_loopw [5] (fun v5 wr => ∃ i : Nat, i ≤ (s).size ∧ v5 = .int .i64 i ∧ Ob wr w.heap.size 23 #[.bool false, .string ⟨#[]⟩] ∧ Below w.heap.size w wr) (fun v5 _ => (s).size - (intOf v5).toNat)
  case atStart => exact ⟨0, by omega, rfl, t2, bl⟩
  case round =>
    clear t2 bl
    obtain ⟨i, hi, rfl, t2, bl⟩ := hrel
    by_cases hil : i < (s).size
    · obtain ⟨c1, c2⟩ := HD.out i hil
      have c1' : ¬ ((s[i].toNat : Nat) : Int) < 48 := by omega
      have c2' : ¬ (57 : Int) < ((s[i].toNat : Nat) : Int) := by omega
      go_wp2_with fail
      go_roundw
      case rel => exact ⟨i + 1, by omega, by go_num, t2, bl⟩
      case measure => simp [intOf]; omega
    · obtain rfl : i = (s).size := by omega
      skip
      go_wp2_with fail
      go_loopw [6, 7] (fun v6 v7 wr => ∃ (i : Nat) (A : Option Addr) (c : Nat), i ≤ (s).size ∧ v7 = .int .i64 i ∧ v6 = .slice A (digs 16777216 (numAt s i)).length c ∧ (digs 16777216 (numAt s i)).length ≤ c ∧ Hid (RdAt wr .i64 A (digs 16777216 (numAt s i))) ∧ Ob wr w.heap.size 23 #[.bool false, .string ⟨#[]⟩] ∧ Below w.heap.size w wr) (fun _ v7 _ => (s).size - (intOf v7).toNat)
      case atStart => exact ⟨0, none, 0, by omega, rfl, by rw [numAt, digs_zero]; rfl, by rw [numAt, digs_zero]; exact Nat.le_refl _, Lib.hid (by rw [numAt, digs_zero]; exact RdAt.nil _ _ _), t2, bl⟩
      case round =>
        clear t2 bl
        obtain ⟨i, A, c, hi, rfl, rfl, hc, hr, t2, bl⟩ := hrel
        have hlen : (digs 16777216 (numAt s i)).length ≤ 400 := Nat.le_trans (numAt_len _ (by decide) s i (fun j _ => HD.out.dig j)) (by omega)
        by_cases hil : i < (s).size
        · obtain ⟨c1, c2⟩ := HD.out i hil
          obtain ⟨dv, hdv⟩ : ∃ d, d = digAt s i := ⟨_, rfl⟩
          have hdt : digAt s i = s[i].toNat - 48 := by unfold digAt; rw [dif_pos hil]
          have hd9 : dv ≤ 9 := by omega
          have hlen2 := RP_len s i (by omega) (fun j _ => HD.out.dig j)
          have HMUL := fun (A : Option Addr) c b W h1 h2 => Lib.hid (RP_mul A c b (numAt s i) W h1 h2 hlen)
          have HTRM := fun b W h1 => Lib.hid (RP_trim b dv W hd9 h1)
          have HADD := fun (P : Option Addr) cp b W h1 h2 h3 => Lib.hid (RP_add P cp b (numAt s i * 10) dv (numAt s (i + 1)) W hd9 h1 h2 h3 hlen2 (by rw [hdv]; rfl))
          have q1 : IntKind.u8.wrap (((s[i].toNat : Nat) : Int) - 48) = (dv : Int) := by rw [show ((s[i].toNat : Nat) : Int) - 48 = (dv : Int) from by omega]; exact wrb8 (by omega) (by omega)
          have q2 : IntKind.i64.wrap (dv : Int) = (dv : Int) := wr64 (by omega) (by omega)
          have i1 : (0 : Int) ≤ (i : Int) := by omega
          have i2 : (i : Int) < (s).size := by omega
          have HDV := Lib.hid hdv
          clear hdv hdt
          go_wp2_with fail
          refine region_tr (CB wr) 11 (.look 0 (.look 3 (.look 4 (.look 5 (.look 6 (.look 7 (.two 1 8 (.two 2 8 (.one 8 (.one 9 (.one 10 .nil))) (.one 2 (.one 9 (.one 10 .nil)))) (.one 1 (.one 2 (.one 9 (.one 10 .nil))))))))))) (by kernel_rfl) (by kernel_rfl) (CB.drew0 wr) ?_
          refine wpTr.eye _ (.slice A (digs 16777216 (numAt s i)).length c) rfl (by kernel_rfl) (by intro w' hC; go_simp) ?_
          try simp only [Act.put, List.setIfInBounds_toArray, List.set_cons_zero, List.set_cons_succ]
          refine wpTr.eye _ (.string s) rfl (by kernel_rfl) (by intro w' hC; go_simp) ?_
          try simp only [Act.put, List.setIfInBounds_toArray, List.set_cons_zero, List.set_cons_succ]
          refine wpTr.eye _ (.int .i64 i) rfl (by kernel_rfl) (by intro w' hC; go_simp) ?_
          try simp only [Act.put, List.setIfInBounds_toArray, List.set_cons_zero, List.set_cons_succ]
          refine wpTr.eye _ (.int .u8 ((s[i]'hil).toNat : Nat)) rfl (by kernel_rfl) (by intro w' hC; go_simp) ?_
          try simp only [Act.put, List.setIfInBounds_toArray, List.set_cons_zero, List.set_cons_succ]
          refine wpTr.eye _ (.int .u8 (dv : Nat)) rfl (by kernel_rfl) (by intro w' hC; go_simp) ?_
          try simp only [Act.put, List.setIfInBounds_toArray, List.set_cons_zero, List.set_cons_succ]
          refine wpTr.eye _ (.int .i64 (dv : Nat)) rfl (by kernel_rfl) (by intro w' hC; go_simp) ?_
          try simp only [Act.put, List.setIfInBounds_toArray, List.set_cons_zero, List.set_cons_succ]
          clear q1 q2 i1 i2
          have hS := CB.drew0 wr
          have hr := Lib.hid (hr.out.below ((Below.refl wr.heap.size wr).drew))
          have t2 := t2.below ((Below.refl wr.heap.size wr).drew) t2.lt
          have bl := bl.trans (Below.mono ((Below.refl wr.heap.size wr).drew) bl.size)
          generalize World.drew wr = V0 at hS hr t2 bl ⊢
          refine wpTr.do2 ?_ ?_
          focus
            refine wpTr.do1 _ rfl (fun K hK => ?_)
            go_simp
            have hS2 := hS.step ((Below.refl V0.heap.size V0).alloc (Nat.le_refl _) (.cells #[.int .i64 (10 : Nat)] 3))
            refine hK.out _ _ hS2 ?_
            clear hK K
            have hT := Lib.hid (rd_cell (Ob.new V0 3 #[.int .i64 (10 : Nat)]))
            have hA := (Below.refl V0.heap.size V0).alloc (Nat.le_refl _) (.cells #[.int .i64 (10 : Nat)] 3)
            have hr := Lib.hid (hr.out.below hA)
            have t2 := t2.below hA t2.lt
            have bl := bl.trans (Below.mono hA bl.size)
            have hS := hS2
            clear hS2 hA
            generalize hbn : V0.heap.size = bhT at *
            clear hbn
            generalize World.alloc V0 _ = V1 at *
            try simp only [Act.put, List.setIfInBounds_toArray, List.set_cons_zero, List.set_cons_succ]
            refine wpTr.do2 ?_ ?_
            focus
              refine wpTr.do1 _ rfl (fun K hK => ?_)
              go_simp
              refine (HMUL A c bhT V1 hr.out hT.out).out.mono ?_
              rintro e V2 ⟨P, cp, rfl, hcp, hP0, hb⟩
              have hS2 := hS.step hb
              dsimp only
              refine hK.out _ _ hS2 ?_
              clear hK K
              have t2 := t2.below hb t2.lt
              have bl := bl.trans (Below.mono hb bl.size)
              have hS := hS2
              clear hS2 hb
              try simp only [Act.put, List.setIfInBounds_toArray, List.set_cons_zero, List.set_cons_succ]
              have hP := Lib.hid hP0
              have hCP := Lib.hid hcp
              clear hP0 hcp
              refine wpTr.do1 _ rfl (fun K hK => ?_)
              go_simp
              have hS2 := hS.step ((Below.refl V2.heap.size V2).alloc (Nat.le_refl _) (.cells #[.int .i64 (dv : Nat)] 3))
              refine hK.out _ _ hS2 ?_
              clear hK K
              have hD := Lib.hid (rd_cell (Ob.new V2 3 #[.int .i64 (dv : Nat)]))
              have hA := (Below.refl V2.heap.size V2).alloc (Nat.le_refl _) (.cells #[.int .i64 (dv : Nat)] 3)
              have hP := Lib.hid (hP.out.below hA)
              have t2 := t2.below hA t2.lt
              have bl := bl.trans (Below.mono hA bl.size)
              have hS := hS2
              clear hS2 hA
              generalize hbn : V2.heap.size = bhD at *
              clear hbn
              generalize World.alloc V2 _ = V3 at *
              try simp only [Act.put, List.setIfInBounds_toArray, List.set_cons_zero, List.set_cons_succ]
              refine wpTr.do1 _ rfl (fun K hK => ?_)
              go_simp
              refine (HTRM bhD V3 hD.out).out.mono ?_
              rintro e V4 ⟨rfl, hb⟩
              have hS2 := hS.step hb
              dsimp only
              refine hK.out _ _ hS2 ?_
              clear hK K
              have hP := Lib.hid (hP.out.below hb)
              have hD := Lib.hid (hD.out.below hb)
              have t2 := t2.below hb t2.lt
              have bl := bl.trans (Below.mono hb bl.size)
              have hS := hS2
              clear hS2 hb
              try simp only [Act.put, List.setIfInBounds_toArray, List.set_cons_zero, List.set_cons_succ]
              refine wpTr.do1 _ rfl (fun K hK => ?_)
              go_simp
              refine (HADD P cp bhD V4 hP.out hCP.out (Lib.hid hD.out).out).out.mono ?_
              rintro e V5 ⟨R, cr, rfl, hcr, hR0, hb⟩
              have hS2 := hS.step hb
              dsimp only
              refine hK.out _ _ hS2 ?_
              clear hK K
              have t2 := t2.below hb t2.lt
              have bl := bl.trans (Below.mono hb bl.size)
              have hS := hS2
              clear hS2 hb
              try simp only [Act.put, List.setIfInBounds_toArray, List.set_cons_zero, List.set_cons_succ]
              have hR := Lib.hid hR0
              clear hR0
              simp only [wpTr, List.drop_succ_cons, List.drop_zero]
              go_wp2_with fail
              refine NoPanic.normal ?_
              go_wp2_with fail
              go_roundw
              case rel => exact ⟨i + 1, R, cr, by omega, by go_num, rfl, hcr, hR, t2, bl⟩
              case measure => simp [intOf]; omega
            focus
              refine wpTr.do1 _ rfl (fun K hK => ?_)
              go_simp
              have hS2 := hS.step ((Below.refl V1.heap.size V1).alloc (Nat.le_refl _) (.cells #[.int .i64 (dv : Nat)] 3))
              refine hK.out _ _ hS2 ?_
              clear hK K
              have hD := Lib.hid (rd_cell (Ob.new V1 3 #[.int .i64 (dv : Nat)]))
              have hA := (Below.refl V1.heap.size V1).alloc (Nat.le_refl _) (.cells #[.int .i64 (dv : Nat)] 3)
              have hr := Lib.hid (hr.out.below hA)
              have hT := Lib.hid (hT.out.below hA)
              have t2 := t2.below hA t2.lt
              have bl := bl.trans (Below.mono hA bl.size)
              have hS := hS2
              clear hS2 hA
              generalize hbn : V1.heap.size = bhD at *
              clear hbn
              generalize World.alloc V1 _ = V6 at *
              try simp only [Act.put, List.setIfInBounds_toArray, List.set_cons_zero, List.set_cons_succ]
              refine wpTr.do1 _ rfl (fun K hK => ?_)
              go_simp
              refine (HMUL A c bhT V6 hr.out hT.out).out.mono ?_
              rintro e V7 ⟨P, cp, rfl, hcp, hP0, hb⟩
              have hS2 := hS.step hb
              dsimp only
              refine hK.out _ _ hS2 ?_
              clear hK K
              have hD := Lib.hid (hD.out.below hb)
              have t2 := t2.below hb t2.lt
              have bl := bl.trans (Below.mono hb bl.size)
              have hS := hS2
              clear hS2 hb
              try simp only [Act.put, List.setIfInBounds_toArray, List.set_cons_zero, List.set_cons_succ]
              have hP := Lib.hid hP0
              have hCP := Lib.hid hcp
              clear hP0 hcp
              refine wpTr.do1 _ rfl (fun K hK => ?_)
              go_simp
              refine (HTRM bhD V7 hD.out).out.mono ?_
              rintro e V8 ⟨rfl, hb⟩
              have hS2 := hS.step hb
              dsimp only
              refine hK.out _ _ hS2 ?_
              clear hK K
              have hP := Lib.hid (hP.out.below hb)
              have hD := Lib.hid (hD.out.below hb)
              have t2 := t2.below hb t2.lt
              have bl := bl.trans (Below.mono hb bl.size)
              have hS := hS2
              clear hS2 hb
              try simp only [Act.put, List.setIfInBounds_toArray, List.set_cons_zero, List.set_cons_succ]
              refine wpTr.do1 _ rfl (fun K hK => ?_)
              go_simp
              refine (HADD P cp bhD V8 hP.out hCP.out (Lib.hid hD.out).out).out.mono ?_
              rintro e V9 ⟨R, cr, rfl, hcr, hR0, hb⟩
              have hS2 := hS.step hb
              dsimp only
              refine hK.out _ _ hS2 ?_
              clear hK K
              have t2 := t2.below hb t2.lt
              have bl := bl.trans (Below.mono hb bl.size)
              have hS := hS2
              clear hS2 hb
              try simp only [Act.put, List.setIfInBounds_toArray, List.set_cons_zero, List.set_cons_succ]
              have hR := Lib.hid hR0
              clear hR0
              simp only [wpTr, List.drop_succ_cons, List.drop_zero]
              go_wp2_with fail
              refine NoPanic.normal ?_
              go_wp2_with fail
              go_roundw
              case rel => exact ⟨i + 1, R, cr, by omega, by go_num, rfl, hcr, hR, t2, bl⟩
              case measure => simp [intOf]; omega
          focus
            refine wpTr.do1 _ rfl (fun K hK => ?_)
            go_simp
            have hS2 := hS.step ((Below.refl V0.heap.size V0).alloc (Nat.le_refl _) (.cells #[.int .i64 (dv : Nat)] 3))
            refine hK.out _ _ hS2 ?_
            clear hK K
            have hD := Lib.hid (rd_cell (Ob.new V0 3 #[.int .i64 (dv : Nat)]))
            have hA := (Below.refl V0.heap.size V0).alloc (Nat.le_refl _) (.cells #[.int .i64 (dv : Nat)] 3)
            have hr := Lib.hid (hr.out.below hA)
            have t2 := t2.below hA t2.lt
            have bl := bl.trans (Below.mono hA bl.size)
            have hS := hS2
            clear hS2 hA
            generalize hbn : V0.heap.size = bhD at *
            clear hbn
            generalize World.alloc V0 _ = V10 at *
            try simp only [Act.put, List.setIfInBounds_toArray, List.set_cons_zero, List.set_cons_succ]
            refine wpTr.do1 _ rfl (fun K hK => ?_)
            go_simp
            have hS2 := hS.step ((Below.refl V10.heap.size V10).alloc (Nat.le_refl _) (.cells #[.int .i64 (10 : Nat)] 3))
            refine hK.out _ _ hS2 ?_
            clear hK K
            have hT := Lib.hid (rd_cell (Ob.new V10 3 #[.int .i64 (10 : Nat)]))
            have hA := (Below.refl V10.heap.size V10).alloc (Nat.le_refl _) (.cells #[.int .i64 (10 : Nat)] 3)
            have hr := Lib.hid (hr.out.below hA)
            have hD := Lib.hid (hD.out.below hA)
            have t2 := t2.below hA t2.lt
            have bl := bl.trans (Below.mono hA bl.size)
            have hS := hS2
            clear hS2 hA
            generalize hbn : V10.heap.size = bhT at *
            clear hbn
            generalize World.alloc V10 _ = V11 at *
            try simp only [Act.put, List.setIfInBounds_toArray, List.set_cons_zero, List.set_cons_succ]
            refine wpTr.do1 _ rfl (fun K hK => ?_)
            go_simp
            refine (HMUL A c bhT V11 hr.out hT.out).out.mono ?_
            rintro e V12 ⟨P, cp, rfl, hcp, hP0, hb⟩
            have hS2 := hS.step hb
            dsimp only
            refine hK.out _ _ hS2 ?_
            clear hK K
            have hD := Lib.hid (hD.out.below hb)
            have t2 := t2.below hb t2.lt
            have bl := bl.trans (Below.mono hb bl.size)
            have hS := hS2
            clear hS2 hb
            try simp only [Act.put, List.setIfInBounds_toArray, List.set_cons_zero, List.set_cons_succ]
            have hP := Lib.hid hP0
            have hCP := Lib.hid hcp
            clear hP0 hcp
            refine wpTr.do1 _ rfl (fun K hK => ?_)
            go_simp
            refine (HTRM bhD V12 hD.out).out.mono ?_
            rintro e V13 ⟨rfl, hb⟩
            have hS2 := hS.step hb
            dsimp only
            refine hK.out _ _ hS2 ?_
            clear hK K
            have hP := Lib.hid (hP.out.below hb)
            have hD := Lib.hid (hD.out.below hb)
            have t2 := t2.below hb t2.lt
            have bl := bl.trans (Below.mono hb bl.size)
            have hS := hS2
            clear hS2 hb
            try simp only [Act.put, List.setIfInBounds_toArray, List.set_cons_zero, List.set_cons_succ]
            refine wpTr.do1 _ rfl (fun K hK => ?_)
            go_simp
            refine (HADD P cp bhD V13 hP.out hCP.out (Lib.hid hD.out).out).out.mono ?_
            rintro e V14 ⟨R, cr, rfl, hcr, hR0, hb⟩
            have hS2 := hS.step hb
            dsimp only
            refine hK.out _ _ hS2 ?_
            clear hK K
            have t2 := t2.below hb t2.lt
            have bl := bl.trans (Below.mono hb bl.size)
            have hS := hS2
            clear hS2 hb
            try simp only [Act.put, List.setIfInBounds_toArray, List.set_cons_zero, List.set_cons_succ]
            have hR := Lib.hid hR0
            clear hR0
            simp only [wpTr, List.drop_succ_cons, List.drop_zero]
            go_wp2_with fail
            refine NoPanic.normal ?_
            go_wp2_with fail
            go_roundw
            case rel => exact ⟨i + 1, R, cr, by omega, by go_num, rfl, hcr, hR, t2, bl⟩
            case measure => simp [intOf]; omega
        · obtain rfl : i = (s).size := by omega
          have HW := Lib.hid (Rsigned_d A c (numAt s (s).size) false wr hr.out (by omega))
          have hlt : ¬ (s.size : Int) < s.size := by omega
          go_wp2_with fail
          refine (HW.out).mono ?_
          rintro e W1 ⟨rfl, hb⟩
          have t2 := t2.below hb t2.lt
          have bl := bl.trans (Below.mono hb bl.size)
          clear hb
          try simp only [ptr, Act.put, List.setIfInBounds_toArray, List.set_cons_zero, List.set_cons_succ]
          have fr2 := t2.free
          obtain ⟨z2_0, z2_1⟩ := t2.cells2
          go_wp2_with fail
          clear fr2 z2_0 z2_1
          have t2 := t2.set2 (.bool (sg (sgnd false (numAt s (s).size)))) (.string (mg (sgnd false (numAt s (s).size))))
          have bl := (below_set (below_set bl (show w.heap.size ≤ w.heap.size by omega) 0 (.bool (sg (sgnd false (numAt s (s).size))))) (show w.heap.size ≤ w.heap.size by omega) 1 (.string (mg (sgnd false (numAt s (s).size)))))
          generalize World.setCell (World.setCell W1 _ _) _ _ = W2 at t2 bl ⊢
          obtain ⟨r2_0, r2_1⟩ := t2.cells2
          exact bodyPost_ret (v := .tuple #[vI (sgnd false (numAt s (s).size)), .int .i64 0]) (by simp [results, Tryd.results31, go_sem, r2_0, r2_1]) rfl (⟨rfl, bl⟩)
set_option maxHeartbeats 4000000 in
set_option maxRecDepth 100000 in
theorem RParse_zer (s : ByteArray) (w : World) (h0 : 0 < s.size) (h45 : ¬ (s[0]'h0).toNat = 45) (h48 : (s[0]'h0).toNat = 48) (hz : s = ⟨#[48]⟩) (hd : AllD s) (hl : (s).size ≤ 400) :
    Calls Tryd.prog 31 #[.string s] w (RetIE (sgnd false (numAt s (s).size)) 0 w) := by
  have HD := Lib.hid hd
  clear hd
  have hl' : ¬ (400 : Int) < (s).size := by omega
  obtain ⟨e1, e2⟩ := str_full h0
  have HZ := Lib.hid hz
  clear hz
  go_enter Tryd.func31, Tryd.ntmps31
  go_wp2_with fail
  have t2 := Ob.new (w) 23 #[.bool false, .string ⟨#[]⟩]
  have bl := ((Below.refl w.heap.size w).alloc (Nat.le_refl _) (.cells #[.bool false, .string ⟨#[]⟩] 23))
  try simp only [World.size_alloc] at t2
  generalize World.alloc w _ = W1 at t2 bl ⊢
  clear h45
  go_loopw [5] (fun v5 wr => ∃ i : Nat, i ≤ (s).size ∧ v5 = .int .i64 i ∧ Ob wr w.heap.size 23 #[.bool false, .string ⟨#[]⟩] ∧ Below w.heap.size w wr) (fun v5 _ => (s).size - (intOf v5).toNat)
  case atStart => exact ⟨0, by omega, rfl, t2, bl⟩
  case round =>
    clear t2 bl
    obtain ⟨i, hi, rfl, t2, bl⟩ := hrel
    by_cases hil : i < (s).size
    · obtain ⟨c1, c2⟩ := HD.out i hil
      have c1' : ¬ ((s[i].toNat : Nat) : Int) < 48 := by omega
      have c2' : ¬ (57 : Int) < ((s[i].toNat : Nat) : Int) := by omega
      go_wp2_with fail
      go_roundw
      case rel => exact ⟨i + 1, by omega, by go_num, t2, bl⟩
      case measure => simp [intOf]; omega
    · obtain rfl : i = (s).size := by omega
      have z1 : s.toList = [48] := by rw [HZ.out, ByteArray.toList_eq]
      go_wp2_with fail
      go_loopw [6, 7] (fun v6 v7 wr => ∃ (i : Nat) (A : Option Addr) (c : Nat), i ≤ (s).size ∧ v7 = .int .i64 i ∧ v6 = .slice A (digs 16777216 (numAt s i)).length c ∧ (digs 16777216 (numAt s i)).length ≤ c ∧ Hid (RdAt wr .i64 A (digs 16777216 (numAt s i))) ∧ Ob wr w.heap.size 23 #[.bool false, .string ⟨#[]⟩] ∧ Below w.heap.size w wr) (fun _ v7 _ => (s).size - (intOf v7).toNat)
      case atStart => exact ⟨0, none, 0, by omega, rfl, by rw [numAt, digs_zero]; rfl, by rw [numAt, digs_zero]; exact Nat.le_refl _, Lib.hid (by rw [numAt, digs_zero]; exact RdAt.nil _ _ _), t2, bl⟩
      case round =>
        clear t2 bl
        obtain ⟨i, A, c, hi, rfl, rfl, hc, hr, t2, bl⟩ := hrel
        have hlen : (digs 16777216 (numAt s i)).length ≤ 400 := Nat.le_trans (numAt_len _ (by decide) s i (fun j _ => HD.out.dig j)) (by omega)
        by_cases hil : i < (s).size
        · obtain ⟨c1, c2⟩ := HD.out i hil
          obtain ⟨dv, hdv⟩ : ∃ d, d = digAt s i := ⟨_, rfl⟩
          have hdt : digAt s i = s[i].toNat - 48 := by unfold digAt; rw [dif_pos hil]
          have hd9 : dv ≤ 9 := by omega
          have hlen2 := RP_len s i (by omega) (fun j _ => HD.out.dig j)
          have HMUL := fun (A : Option Addr) c b W h1 h2 => Lib.hid (RP_mul A c b (numAt s i) W h1 h2 hlen)
          have HTRM := fun b W h1 => Lib.hid (RP_trim b dv W hd9 h1)
          have HADD := fun (P : Option Addr) cp b W h1 h2 h3 => Lib.hid (RP_add P cp b (numAt s i * 10) dv (numAt s (i + 1)) W hd9 h1 h2 h3 hlen2 (by rw [hdv]; rfl))
          have q1 : IntKind.u8.wrap (((s[i].toNat : Nat) : Int) - 48) = (dv : Int) := by rw [show ((s[i].toNat : Nat) : Int) - 48 = (dv : Int) from by omega]; exact wrb8 (by omega) (by omega)
          have q2 : IntKind.i64.wrap (dv : Int) = (dv : Int) := wr64 (by omega) (by omega)
          have i1 : (0 : Int) ≤ (i : Int) := by omega
          have i2 : (i : Int) < (s).size := by omega
          have HDV := Lib.hid hdv
          clear hdv hdt
          go_wp2_with fail
          refine region_tr (CB wr) 11 (.look 0 (.look 3 (.look 4 (.look 5 (.look 6 (.look 7 (.two 1 8 (.two 2 8 (.one 8 (.one 9 (.one 10 .nil))) (.one 2 (.one 9 (.one 10 .nil)))) (.one 1 (.one 2 (.one 9 (.one 10 .nil))))))))))) (by kernel_rfl) (by kernel_rfl) (CB.drew0 wr) ?_
          refine wpTr.eye _ (.slice A (digs 16777216 (numAt s i)).length c) rfl (by kernel_rfl) (by intro w' hC; go_simp) ?_
          try simp only [Act.put, List.setIfInBounds_toArray, List.set_cons_zero, List.set_cons_succ]
          refine wpTr.eye _ (.string s) rfl (by kernel_rfl) (by intro w' hC; go_simp) ?_
          try simp only [Act.put, List.setIfInBounds_toArray, List.set_cons_zero, List.set_cons_succ]
          refine wpTr.eye _ (.int .i64 i) rfl (by kernel_rfl) (by intro w' hC; go_simp) ?_
          try simp only [Act.put, List.setIfInBounds_toArray, List.set_cons_zero, List.set_cons_succ]
          refine wpTr.eye _ (.int .u8 ((s[i]'hil).toNat : Nat)) rfl (by kernel_rfl) (by intro w' hC; go_simp) ?_
          try simp only [Act.put, List.setIfInBounds_toArray, List.set_cons_zero, List.set_cons_succ]
          refine wpTr.eye _ (.int .u8 (dv : Nat)) rfl (by kernel_rfl) (by intro w' hC; go_simp) ?_
          try simp only [Act.put, List.setIfInBounds_toArray, List.set_cons_zero, List.set_cons_succ]
          refine wpTr.eye _ (.int .i64 (dv : Nat)) rfl (by kernel_rfl) (by intro w' hC; go_simp) ?_
          try simp only [Act.put, List.setIfInBounds_toArray, List.set_cons_zero, List.set_cons_succ]
          clear q1 q2 i1 i2
          have hS := CB.drew0 wr
          have hr := Lib.hid (hr.out.below ((Below.refl wr.heap.size wr).drew))
          have t2 := t2.below ((Below.refl wr.heap.size wr).drew) t2.lt
          have bl := bl.trans (Below.mono ((Below.refl wr.heap.size wr).drew) bl.size)
          generalize World.drew wr = V0 at hS hr t2 bl ⊢
          refine wpTr.do2 ?_ ?_
          focus
            refine wpTr.do1 _ rfl (fun K hK => ?_)
            go_simp
            have hS2 := hS.step ((Below.refl V0.heap.size V0).alloc (Nat.le_refl _) (.cells #[.int .i64 (10 : Nat)] 3))
            refine hK.out _ _ hS2 ?_
            clear hK K
            have hT := Lib.hid (rd_cell (Ob.new V0 3 #[.int .i64 (10 : Nat)]))
            have hA := (Below.refl V0.heap.size V0).alloc (Nat.le_refl _) (.cells #[.int .i64 (10 : Nat)] 3)
            have hr := Lib.hid (hr.out.below hA)
            have t2 := t2.below hA t2.lt
            have bl := bl.trans (Below.mono hA bl.size)
            have hS := hS2
            clear hS2 hA
            generalize hbn : V0.heap.size = bhT at *
            clear hbn
            generalize World.alloc V0 _ = V1 at *
            try simp only [Act.put, List.setIfInBounds_toArray, List.set_cons_zero, List.set_cons_succ]
            refine wpTr.do2 ?_ ?_
            focus
              refine wpTr.do1 _ rfl (fun K hK => ?_)
              go_simp
              refine (HMUL A c bhT V1 hr.out hT.out).out.mono ?_
              rintro e V2 ⟨P, cp, rfl, hcp, hP0, hb⟩
              have hS2 := hS.step hb
              dsimp only
              refine hK.out _ _ hS2 ?_
              clear hK K
              have t2 := t2.below hb t2.lt
              have bl := bl.trans (Below.mono hb bl.size)
              have hS := hS2
              clear hS2 hb
              try simp only [Act.put, List.setIfInBounds_toArray, List.set_cons_zero, List.set_cons_succ]
              have hP := Lib.hid hP0
              have hCP := Lib.hid hcp
              clear hP0 hcp
              refine wpTr.do1 _ rfl (fun K hK => ?_)
              go_simp
              have hS2 := hS.step ((Below.refl V2.heap.size V2).alloc (Nat.le_refl _) (.cells #[.int .i64 (dv : Nat)] 3))
              refine hK.out _ _ hS2 ?_
              clear hK K
              have hD := Lib.hid (rd_cell (Ob.new V2 3 #[.int .i64 (dv : Nat)]))
              have hA := (Below.refl V2.heap.size V2).alloc (Nat.le_refl _) (.cells #[.int .i64 (dv : Nat)] 3)
              have hP := Lib.hid (hP.out.below hA)
              have t2 := t2.below hA t2.lt
              have bl := bl.trans (Below.mono hA bl.size)
              have hS := hS2
              clear hS2 hA
              generalize hbn : V2.heap.size = bhD at *
              clear hbn
              generalize World.alloc V2 _ = V3 at *
              try simp only [Act.put, List.setIfInBounds_toArray, List.set_cons_zero, List.set_cons_succ]
              refine wpTr.do1 _ rfl (fun K hK => ?_)
              go_simp
              refine (HTRM bhD V3 hD.out).out.mono ?_
              rintro e V4 ⟨rfl, hb⟩
              have hS2 := hS.step hb
              dsimp only
              refine hK.out _ _ hS2 ?_
              clear hK K
              have hP := Lib.hid (hP.out.below hb)
              have hD := Lib.hid (hD.out.below hb)
              have t2 := t2.below hb t2.lt
              have bl := bl.trans (Below.mono hb bl.size)
              have hS := hS2
              clear hS2 hb
              try simp only [Act.put, List.setIfInBounds_toArray, List.set_cons_zero, List.set_cons_succ]
              refine wpTr.do1 _ rfl (fun K hK => ?_)
              go_simp
              refine (HADD P cp bhD V4 hP.out hCP.out (Lib.hid hD.out).out).out.mono ?_
              rintro e V5 ⟨R, cr, rfl, hcr, hR0, hb⟩
              have hS2 := hS.step hb
              dsimp only
              refine hK.out _ _ hS2 ?_
              clear hK K
              have t2 := t2.below hb t2.lt
              have bl := bl.trans (Below.mono hb bl.size)
              have hS := hS2
              clear hS2 hb
              try simp only [Act.put, List.setIfInBounds_toArray, List.set_cons_zero, List.set_cons_succ]
              have hR := Lib.hid hR0
              clear hR0
              simp only [wpTr, List.drop_succ_cons, List.drop_zero]
              go_wp2_with fail
              refine NoPanic.normal ?_
              go_wp2_with fail
              go_roundw
              case rel => exact ⟨i + 1, R, cr, by omega, by go_num, rfl, hcr, hR, t2, bl⟩
              case measure => simp [intOf]; omega
            focus
              refine wpTr.do1 _ rfl (fun K hK => ?_)
              go_simp
              have hS2 := hS.step ((Below.refl V1.heap.size V1).alloc (Nat.le_refl _) (.cells #[.int .i64 (dv : Nat)] 3))
              refine hK.out _ _ hS2 ?_
              clear hK K
              have hD := Lib.hid (rd_cell (Ob.new V1 3 #[.int .i64 (dv : Nat)]))
              have hA := (Below.refl V1.heap.size V1).alloc (Nat.le_refl _) (.cells #[.int .i64 (dv : Nat)] 3)
              have hr := Lib.hid (hr.out.below hA)
              have hT := Lib.hid (hT.out.below hA)
              have t2 := t2.below hA t2.lt
              have bl := bl.trans (Below.mono hA bl.size)
              have hS := hS2
              clear hS2 hA
              generalize hbn : V1.heap.size = bhD at *
              clear hbn
              generalize World.alloc V1 _ = V6 at *
              try simp only [Act.put, List.setIfInBounds_toArray, List.set_cons_zero, List.set_cons_succ]
              refine wpTr.do1 _ rfl (fun K hK => ?_)
              go_simp
              refine (HMUL A c bhT V6 hr.out hT.out).out.mono ?_
              rintro e V7 ⟨P, cp, rfl, hcp, hP0, hb⟩
              have hS2 := hS.step hb
              dsimp only
              refine hK.out _ _ hS2 ?_
              clear hK K
              have hD := Lib.hid (hD.out.below hb)
              have t2 := t2.below hb t2.lt
              have bl := bl.trans (Below.mono hb bl.size)
              have hS := hS2
              clear hS2 hb
              try simp only [Act.put, List.setIfInBounds_toArray, List.set_cons_zero, List.set_cons_succ]
              have hP := Lib.hid hP0
              have hCP := Lib.hid hcp
              clear hP0 hcp
              refine wpTr.do1 _ rfl (fun K hK => ?_)
              go_simp
              refine (HTRM bhD V7 hD.out).out.mono ?_
              rintro e V8 ⟨rfl, hb⟩
              have hS2 := hS.step hb
              dsimp only
              refine hK.out _ _ hS2 ?_
              clear hK K
              have hP := Lib.hid (hP.out.below hb)
              have hD := Lib.hid (hD.out.below hb)
              have t2 := t2.below hb t2.lt
              have bl := bl.trans (Below.mono hb bl.size)
              have hS := hS2
              clear hS2 hb
              try simp only [Act.put, List.setIfInBounds_toArray, List.set_cons_zero, List.set_cons_succ]
              refine wpTr.do1 _ rfl (fun K hK => ?_)
              go_simp
              refine (HADD P cp bhD V8 hP.out hCP.out (Lib.hid hD.out).out).out.mono ?_
              rintro e V9 ⟨R, cr, rfl, hcr, hR0, hb⟩
              have hS2 := hS.step hb
              dsimp only
              refine hK.out _ _ hS2 ?_
              clear hK K
              have t2 := t2.below hb t2.lt
              have bl := bl.trans (Below.mono hb bl.size)
              have hS := hS2
              clear hS2 hb
              try simp only [Act.put, List.setIfInBounds_toArray, List.set_cons_zero, List.set_cons_succ]
              have hR := Lib.hid hR0
              clear hR0
              simp only [wpTr, List.drop_succ_cons, List.drop_zero]
              go_wp2_with fail
              refine NoPanic.normal ?_
              go_wp2_with fail
              go_roundw
              case rel => exact ⟨i + 1, R, cr, by omega, by go_num, rfl, hcr, hR, t2, bl⟩
              case measure => simp [intOf]; omega
          focus
            refine wpTr.do1 _ rfl (fun K hK => ?_)
            go_simp
            have hS2 := hS.step ((Below.refl V0.heap.size V0).alloc (Nat.le_refl _) (.cells #[.int .i64 (dv : Nat)] 3))
            refine hK.out _ _ hS2 ?_
            clear hK K
            have hD := Lib.hid (rd_cell (Ob.new V0 3 #[.int .i64 (dv : Nat)]))
            have hA := (Below.refl V0.heap.size V0).alloc (Nat.le_refl _) (.cells #[.int .i64 (dv : Nat)] 3)
            have hr := Lib.hid (hr.out.below hA)
            have t2 := t2.below hA t2.lt
            have bl := bl.trans (Below.mono hA bl.size)
            have hS := hS2
            clear hS2 hA
            generalize hbn : V0.heap.size = bhD at *
            clear hbn
            generalize World.alloc V0 _ = V10 at *
            try simp only [Act.put, List.setIfInBounds_toArray, List.set_cons_zero, List.set_cons_succ]
            refine wpTr.do1 _ rfl (fun K hK => ?_)
            go_simp
            have hS2 := hS.step ((Below.refl V10.heap.size V10).alloc (Nat.le_refl _) (.cells #[.int .i64 (10 : Nat)] 3))
            refine hK.out _ _ hS2 ?_
            clear hK K
            have hT := Lib.hid (rd_cell (Ob.new V10 3 #[.int .i64 (10 : Nat)]))
            have hA := (Below.refl V10.heap.size V10).alloc (Nat.le_refl _) (.cells #[.int .i64 (10 : Nat)] 3)
            have hr := Lib.hid (hr.out.below hA)
            have hD := Lib.hid (hD.out.below hA)
            have t2 := t2.below hA t2.lt
            have bl := bl.trans (Below.mono hA bl.size)
            have hS := hS2
            clear hS2 hA
            generalize hbn : V10.heap.size = bhT at *
            clear hbn
            generalize World.alloc V10 _ = V11 at *
            try simp only [Act.put, List.setIfInBounds_toArray, List.set_cons_zero, List.set_cons_succ]
            refine wpTr.do1 _ rfl (fun K hK => ?_)
            go_simp
            refine (HMUL A c bhT V11 hr.out hT.out).out.mono ?_
            rintro e V12 ⟨P, cp, rfl, hcp, hP0, hb⟩
            have hS2 := hS.step hb
            dsimp only
            refine hK.out _ _ hS2 ?_
            clear hK K
            have hD := Lib.hid (hD.out.below hb)
            have t2 := t2.below hb t2.lt
            have bl := bl.trans (Below.mono hb bl.size)
            have hS := hS2
            clear hS2 hb
            try simp only [Act.put, List.setIfInBounds_toArray, List.set_cons_zero, List.set_cons_succ]
            have hP := Lib.hid hP0
            have hCP := Lib.hid hcp
            clear hP0 hcp
            refine wpTr.do1 _ rfl (fun K hK => ?_)
            go_simp
            refine (HTRM bhD V12 hD.out).out.mono ?_
            rintro e V13 ⟨rfl, hb⟩
            have hS2 := hS.step hb
            dsimp only
            refine hK.out _ _ hS2 ?_
            clear hK K
            have hP := Lib.hid (hP.out.below hb)
            have hD := Lib.hid (hD.out.below hb)
            have t2 := t2.below hb t2.lt
            have bl := bl.trans (Below.mono hb bl.size)
            have hS := hS2
            clear hS2 hb
            try simp only [Act.put, List.setIfInBounds_toArray, List.set_cons_zero, List.set_cons_succ]
            refine wpTr.do1 _ rfl (fun K hK => ?_)
            go_simp
            refine (HADD P cp bhD V13 hP.out hCP.out (Lib.hid hD.out).out).out.mono ?_
            rintro e V14 ⟨R, cr, rfl, hcr, hR0, hb⟩
            have hS2 := hS.step hb
            dsimp only
            refine hK.out _ _ hS2 ?_
            clear hK K
            have t2 := t2.below hb t2.lt
            have bl := bl.trans (Below.mono hb bl.size)
            have hS := hS2
            clear hS2 hb
            try simp only [Act.put, List.setIfInBounds_toArray, List.set_cons_zero, List.set_cons_succ]
            have hR := Lib.hid hR0
            clear hR0
            simp only [wpTr, List.drop_succ_cons, List.drop_zero]
            go_wp2_with fail
            refine NoPanic.normal ?_
            go_wp2_with fail
            go_roundw
            case rel => exact ⟨i + 1, R, cr, by omega, by go_num, rfl, hcr, hR, t2, bl⟩
            case measure => simp [intOf]; omega
        · obtain rfl : i = (s).size := by omega
          have HW := Lib.hid (Rsigned_d A c (numAt s (s).size) false wr hr.out (by omega))
          have hlt : ¬ (s.size : Int) < s.size := by omega
          go_wp2_with fail
          refine (HW.out).mono ?_
          rintro e W1 ⟨rfl, hb⟩
          have t2 := t2.below hb t2.lt
          have bl := bl.trans (Below.mono hb bl.size)
          clear hb
          try simp only [ptr, Act.put, List.setIfInBounds_toArray, List.set_cons_zero, List.set_cons_succ]
          have fr2 := t2.free
          obtain ⟨z2_0, z2_1⟩ := t2.cells2
          go_wp2_with fail
          clear fr2 z2_0 z2_1
          have t2 := t2.set2 (.bool (sg (sgnd false (numAt s (s).size)))) (.string (mg (sgnd false (numAt s (s).size))))
          have bl := (below_set (below_set bl (show w.heap.size ≤ w.heap.size by omega) 0 (.bool (sg (sgnd false (numAt s (s).size))))) (show w.heap.size ≤ w.heap.size by omega) 1 (.string (mg (sgnd false (numAt s (s).size)))))
          generalize World.setCell (World.setCell W1 _ _) _ _ = W2 at t2 bl ⊢
          obtain ⟨r2_0, r2_1⟩ := t2.cells2
          exact bodyPost_ret (v := .tuple #[vI (sgnd false (numAt s (s).size)), .int .i64 0]) (by simp [results, Tryd.results31, go_sem, r2_0, r2_1]) rfl (⟨rfl, bl⟩)
end Go.Proofs.YtboolbcckfldaaaDoor
