import Derived.Test.YtboolbcckfldaaaDoorRefA
namespace Go.Proofs.YtboolbcckfldaaaDoor
open Go.RowKit
set_option linter.unusedVariables false
set_option linter.unusedSimpArgs false

set_option maxHeartbeats 400000 in
set_option maxRecDepth 100000 in
theorem RValid_any (n : Bool) (s : ByteArray) (w : World) :
    Calls Tryd.prog 33 #[.agg #[.bool n, .string s]] w (RetB (vld n s) w) := by
  by_cases h0 : s.size = 0
  · obtain ⟨e1, e2⟩ := str_empty h0
    have hv : Hid (vld n s = !n) := by unfold vld; rw [dif_neg (by omega)]; exact rfl
    go_enter Tryd.func33, Tryd.ntmps33
    go_wp2
    go_ret
    exact ⟨ret_bool hv.out.symm, (Below.refl _ _).alloc (Nat.le_refl _) _⟩
  · obtain ⟨e1, e2⟩ := str_full (s := s) (by omega)
    have hpos : 0 < s.size := by omega
    have hv : Hid (vld n s = (s[0] != 0)) := by unfold vld; rw [dif_pos hpos]; exact rfl
    go_enter Tryd.func33, Tryd.ntmps33
    go_wp2
    go_ret
    refine ⟨ret_bool ?_, (Below.refl _ _).alloc (Nat.le_refl _) _⟩
    rw [hv.out]
    exact byte_ne _

set_option maxHeartbeats 1000000 in
set_option maxRecDepth 100000 in
theorem Rsigned_lists (A : Option Addr) (c n : Nat) (xs : List Nat) (b : Bool) (w : World) (hx : RdAt w .i64 A xs) (hl : xs.length ≤ 1000000000) (dx : Dig 16777216 xs) (hn0 : n = val 16777216 xs) :
    Calls Tryd.prog 54 #[.bool b, .slice A xs.length c] w (RetI (sgnd b n) w) := by
  have hx1 := hx.below ((Below.refl _ _).alloc (Nat.le_refl _) (.cells #[.bool false, .string ⟨#[]⟩] 23))
  have HX := Lib.hid hx1
  have HDX := Lib.hid dx
  have HBY := fun W h => Lib.hid (Rbytes_lists A c xs W h hl dx)
  rw [← hn0] at HBY
  clear hx hx1 dx hn0
  by_cases hn : n = 0
  · have hz : (magB n).size = 0 := by rw [size_magB, hn, digs_zero]; rfl
    obtain ⟨e1, e2⟩ := str_empty hz
    have HN := Lib.hid hn
    clear hn hz
    go_enter Tryd.func54, Tryd.ntmps54
    go_wp2_with fail
    refine (HBY _ HX.out).out.mono ?_
    rintro e w' ⟨rfl, hb⟩
    obtain ⟨hc, hf⟩ := bcell hb
    have hz : w.heap.size + 1 ≤ w'.heap.size := by have := hb.size; simp at this; omega
    have HT := Lib.hid ((Two.new w 23 (.bool false) (.string ⟨#[]⟩)).below hb (by simp))
    have HB := Lib.hid (below_alloc1 hb)
    clear hb
    go_wp2_with fail
    all_goals
      obtain ⟨r0, r1⟩ := HT.out.read (.bool false) (.string (magB n))
      exact bodyPost_ret (v := .agg #[.bool false, .string (magB n)]) (by simp [results, Tryd.results54, go_sem, r0, r1]) rfl ⟨ret_vI (by rw [HN.out, sg_sgnd_zero]) (mg_sgnd _ _).symm, (HB.out.setCell (Nat.le_refl _) _).setCell (Nat.le_refl _) _⟩
  · have hz : 0 < (magB n).size := by
      rw [size_magB]
      have : digs 256 n ≠ [] := fun e => hn ((digs_nil_iff (B := 256) (by decide) n).1 e)
      exact List.length_pos_iff.2 this
    obtain ⟨e1, e2⟩ := str_full hz
    have HN := Lib.hid hn
    clear hn hz
    go_enter Tryd.func54, Tryd.ntmps54
    go_wp2_with fail
    refine (HBY _ HX.out).out.mono ?_
    rintro e w' ⟨rfl, hb⟩
    obtain ⟨hc, hf⟩ := bcell hb
    have hz : w.heap.size + 1 ≤ w'.heap.size := by have := hb.size; simp at this; omega
    have HT := Lib.hid ((Two.new w 23 (.bool false) (.string ⟨#[]⟩)).below hb (by simp))
    have HB := Lib.hid (below_alloc1 hb)
    clear hb
    cases b
    · go_wp2_with fail
      obtain ⟨r0, r1⟩ := HT.out.read (.bool false) (.string (magB n))
      exact bodyPost_ret (v := .agg #[.bool false, .string (magB n)]) (by simp [results, Tryd.results54, go_sem, r0, r1]) rfl ⟨ret_vI (by rw [sg_sgnd_pos _ HN.out]) (mg_sgnd _ _).symm, (HB.out.setCell (Nat.le_refl _) _).setCell (Nat.le_refl _) _⟩
    · go_wp2_with fail
      obtain ⟨r0, r1⟩ := HT.out.read (.bool true) (.string (magB n))
      exact bodyPost_ret (v := .agg #[.bool true, .string (magB n)]) (by simp [results, Tryd.results54, go_sem, r0, r1]) rfl ⟨ret_vI (by rw [sg_sgnd_pos _ HN.out]) (mg_sgnd _ _).symm, (HB.out.setCell (Nat.le_refl _) _).setCell (Nat.le_refl _) _⟩

theorem rd_three (w : World) (k : IntKind) (t : TypeId) (x y z : Nat) : RdAt (w.alloc (.cells #[.int k (x : Int), .int k (y : Int), .int k (z : Int)] t)) k (some ⟨w.heap.size, 0, none⟩) [x, y, z] := fun i hi => by
  have : i = 0 ∨ i = 1 ∨ i = 2 := by simp at hi; omega
  rcases this with rfl | rfl | rfl
  all_goals exact ⟨w.heap.size, 0, rfl, by simp [World.cell?_alloc_at, gd]⟩

set_option maxHeartbeats 1000000 in
set_option maxRecDepth 100000 in
theorem ROf_neg (m : Nat) (w : World) (hm : m ≤ 9223372036854775808) (hm0 : 0 < m) :
    Calls Tryd.prog 27 #[.int .i64 (-(m : Int))] w (RetI (sgnd true m) w) := by
  have q1 : IntKind.u64.wrap (-(m : Int)) = -(m : Int) + 18446744073709551616 := by rw [u64_wrap]; omega
  have q2 : IntKind.u64.wrap (-(-(m : Int) + 18446744073709551616)) = m := by rw [u64_wrap]; omega
  have hr := rd_three (w.alloc (.cells #[.bool false, .string ⟨#[]⟩] 23)) .i64 3 (m % 16777216) (m / 16777216 % 16777216) (m / 16777216 / 16777216)
  have hd : Dig 16777216 [m % 16777216, m / 16777216 % 16777216, m / 16777216 / 16777216] := Dig.cons (Nat.mod_lt _ (by decide)) (Dig.cons (Nat.mod_lt _ (by decide)) (Dig.cons (by omega) (Dig.nil _)))
  have hv : m = val 16777216 [m % 16777216, m / 16777216 % 16777216, m / 16777216 / 16777216] := by simp only [val]; omega
  have HSI := Lib.hid (Rsigned_lists _ 3 m _ true _ hr (by simp) hd hv)
  rw [show ((m % 16777216 : Nat) : Int) = (m : Int) % 16777216 from by omega, show ((m / 16777216 % 16777216 : Nat) : Int) = (m : Int) / 16777216 % 16777216 from by omega, show ((m / 16777216 / 16777216 : Nat) : Int) = (m : Int) / 16777216 / 16777216 from by omega] at HSI
  rw [show (w.alloc (.cells #[.bool false, .string ⟨#[]⟩] 23)).heap.size = w.heap.size + 1 from by simp] at HSI
  clear hr hd hv
  go_enter Tryd.func27, Tryd.ntmps27
  go_wp2_with fail
  refine HSI.out.mono ?_
  rintro e w2 ⟨rfl, hb2⟩
  have hT0 := (Two.new w 23 (.bool false) (.string ⟨#[]⟩)).alloc (.cells #[.int .i64 ((m : Int) % 16777216), .int .i64 ((m : Int) / 16777216 % 16777216), .int .i64 ((m : Int) / 16777216 / 16777216)] 3)
  have HT2 := Lib.hid (hT0.below hb2 (by simp; omega))
  have HB2 := Lib.hid ((((Below.refl w.heap.size w).alloc (Nat.le_refl _) (.cells #[.bool false, .string ⟨#[]⟩] 23)).alloc (by simp) _).trans (hb2.mono (by simp; omega)))
  obtain ⟨f0, f1⟩ := HT2.out.free
  obtain ⟨c0, c1⟩ := HT2.out.cells
  clear hb2 HSI hT0
  go_wp2_with fail
  obtain ⟨r0, r1⟩ := HT2.out.read (.bool (sg (sgnd true m))) (.string (mg (sgnd true m)))
  exact bodyPost_ret (v := vI (sgnd true m)) (by simp [results, Tryd.results27, go_sem, r0, r1]) rfl ⟨rfl, (HB2.out.setCell (Nat.le_refl _) _).setCell (Nat.le_refl _) _⟩
set_option maxHeartbeats 1000000 in
set_option maxRecDepth 100000 in
theorem ROf_pos (m : Nat) (w : World) (hm : m ≤ 9223372036854775808) (hm1 : m < 9223372036854775808) :
    Calls Tryd.prog 27 #[.int .i64 ((m : Int))] w (RetI (sgnd false m) w) := by
  have q1 : IntKind.u64.wrap (m : Int) = m := by rw [u64_wrap]; omega
  have hr := rd_three (w.alloc (.cells #[.bool false, .string ⟨#[]⟩] 23)) .i64 3 (m % 16777216) (m / 16777216 % 16777216) (m / 16777216 / 16777216)
  have hd : Dig 16777216 [m % 16777216, m / 16777216 % 16777216, m / 16777216 / 16777216] := Dig.cons (Nat.mod_lt _ (by decide)) (Dig.cons (Nat.mod_lt _ (by decide)) (Dig.cons (by omega) (Dig.nil _)))
  have hv : m = val 16777216 [m % 16777216, m / 16777216 % 16777216, m / 16777216 / 16777216] := by simp only [val]; omega
  have HSI := Lib.hid (Rsigned_lists _ 3 m _ false _ hr (by simp) hd hv)
  rw [show ((m % 16777216 : Nat) : Int) = (m : Int) % 16777216 from by omega, show ((m / 16777216 % 16777216 : Nat) : Int) = (m : Int) / 16777216 % 16777216 from by omega, show ((m / 16777216 / 16777216 : Nat) : Int) = (m : Int) / 16777216 / 16777216 from by omega] at HSI
  rw [show (w.alloc (.cells #[.bool false, .string ⟨#[]⟩] 23)).heap.size = w.heap.size + 1 from by simp] at HSI
  clear hr hd hv
  go_enter Tryd.func27, Tryd.ntmps27
  go_wp2_with fail
  refine HSI.out.mono ?_
  rintro e w2 ⟨rfl, hb2⟩
  have hT0 := (Two.new w 23 (.bool false) (.string ⟨#[]⟩)).alloc (.cells #[.int .i64 ((m : Int) % 16777216), .int .i64 ((m : Int) / 16777216 % 16777216), .int .i64 ((m : Int) / 16777216 / 16777216)] 3)
  have HT2 := Lib.hid (hT0.below hb2 (by simp; omega))
  have HB2 := Lib.hid ((((Below.refl w.heap.size w).alloc (Nat.le_refl _) (.cells #[.bool false, .string ⟨#[]⟩] 23)).alloc (by simp) _).trans (hb2.mono (by simp; omega)))
  obtain ⟨f0, f1⟩ := HT2.out.free
  obtain ⟨c0, c1⟩ := HT2.out.cells
  clear hb2 HSI hT0
  go_wp2_with fail
  obtain ⟨r0, r1⟩ := HT2.out.read (.bool (sg (sgnd false m))) (.string (mg (sgnd false m)))
  exact bodyPost_ret (v := vI (sgnd false m)) (by simp [results, Tryd.results27, go_sem, r0, r1]) rfl ⟨rfl, (HB2.out.setCell (Nat.le_refl _) _).setCell (Nat.le_refl _) _⟩
theorem ROf_any (n : Int) (w : World) (h0 : -9223372036854775808 ≤ n) (h1 : n ≤ 9223372036854775807) :
    Calls Tryd.prog 27 #[.int .i64 n] w (RetI n w) := by
  by_cases hn : n < 0
  · obtain ⟨m, rfl⟩ : ∃ m : Nat, n = -(m : Int) := ⟨n.natAbs, by omega⟩
    exact ROf_neg m w (by omega) (by omega)
  · obtain ⟨m, rfl⟩ : ∃ m : Nat, n = (m : Int) := ⟨n.natAbs, by omega⟩
    exact ROf_pos m w (by omega) (by omega)
end Go.Proofs.YtboolbcckfldaaaDoor
