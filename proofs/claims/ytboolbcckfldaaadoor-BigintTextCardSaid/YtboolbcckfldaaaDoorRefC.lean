import Derived.Test.YtboolbcckfldaaaDoorRefB
import Derived.Test.YtboolbcckfldaaaDoorNum
namespace Go.Proofs.YtboolbcckfldaaaDoor
open Go.RowKit
set_option linter.unusedVariables false
set_option linter.unusedSimpArgs false

theorem info_int : (Tryd.prog.info? 3).map (fun i => (i.zero, i.size, i.bytes)) = some (some (.int .i64 0), 1, 8) := by kernel_rfl
theorem make_rnat (w : World) (n : Int) (h0 : 0 ≤ n) (hn : n ≤ 10000000000) : ∃ w1, (Instr.makeSlice 65 (.int .i64 n) (.int .i64 n)).run Tryd.prog w = .ok (.slice (some ⟨w.heap.size, 0, none⟩) n.toNat n.toNat) w1 ∧ Blk w1 .i64 3 w.heap.size (List.replicate n.toNat 0) ∧ Below w.heap.size w w1 ∧ w1.heap.size = w.heap.size + 1 := by
  obtain ⟨i, hi, hz, hs, hb⟩ := info_parts info_int
  exact make_blk w Tryd.underlying65 hi hz hs (by omega) n h0 hn

set_option maxHeartbeats 1000000 in
set_option maxRecDepth 100000 in
theorem Rtrim_any (A : Option Addr) (n c : Nat) (xs : List Nat) (w : World) (hn : Hid (xs.length = n)) (hx : Hid (RdAt w .i64 A xs)) (hl : n ≤ 2100000000) (hc : n ≤ c) :
    Calls Tryd.prog 62 #[.slice A n c] w fun e w' => e = .returned (.slice A (trimL xs).length c) ∧ w = w' := by
  obtain rfl := hn.out
  have H : Hid (trimL xs = trimL (xs.take xs.length)) := by rw [List.take_length]; exact rfl
  go_enter Tryd.func62, Tryd.ntmps62
  go_wp2
  go_loop [0] (fun v => ∃ k : Nat, k ≤ xs.length ∧ v = .slice A k c ∧ Hid (trimL xs = trimL (xs.take k))) (fun v => lenOf v)
  case atStart => exact ⟨xs.length, Nat.le_refl _, rfl, H⟩
  case round =>
    obtain ⟨k, hk, rfl, ht⟩ := hrel
    clear H
    by_cases h0 : 0 < k
    · obtain ⟨b, o, rfl, hc1⟩ := hx.out (k - 1) (by omega)
      clear hx
      by_cases hz : gd xs (k - 1) = 0
      · have hz' : (((gd xs (k - 1) : Nat) : Int) == 0) = true := by rw [hz]; rfl
        have HZ := Lib.hid hz
        clear hz
        go_wp2
        go_round
        case rel => exact ⟨k - 1, by omega, rfl, ht.out.trans (trimL_cut h0 hk HZ.out)⟩
        case measure => simp [lenOf]; omega
      · have hz' : (((gd xs (k - 1) : Nat) : Int) == 0) = false := by rw [beq_eq_false_iff_ne]; omega
        have HZ := Lib.hid hz
        clear hz
        go_wp2
        go_ret
        exact ⟨ret_slice (by rw [ht.out, trimL_stop h0 hk HZ.out]), rfl⟩
    · go_wp2
      go_ret
      obtain rfl : k = 0 := by omega
      exact ⟨ret_slice (by rw [ht.out]; rfl), rfl⟩


theorem shl3 (z c r : Nat) (hr : r < 3) (hz : z < 16777216) (hc : c < 256) : wrap64 ((z : Int) + wrap64 (wrap64 (c : Int) * 2 ^ (8 * r))) = ((z + c * 256 ^ r : Nat) : Int) := by
  have : r = 0 ∨ r = 1 ∨ r = 2 := by omega
  rcases this with rfl | rfl | rfl
  all_goals (simp [wrap64]; omega)
theorem ret_slice2 {A : Option Addr} {n m c d : Nat} (h : n = m) (h' : c = d) : Ending.returned (.slice A n c) = .returned (.slice A m d) := by rw [h, h']
set_option maxHeartbeats 1000000 in
set_option maxRecDepth 100000 in
theorem Rdigits_any (s : ByteArray) (w : World) (hs : s.size ≤ 2000000000) (hlen : (digs 16777216 (sv s)).length = (s.size + 2) / 3) :
    Calls Tryd.prog 48 #[.string s] w (RetD .i64 16777216 (sv s) w) := by
  obtain ⟨w1, hmk, hbk, HW, hsz⟩ := make_rnat w (((s.size : Int) + 2) / 3) (by omega) (by omega)
  have HL := Lib.hid hlen
  clear hlen
  have HS := Lib.hid hsz
  have HB := Lib.hid hbk
  clear hsz hbk
  go_enter Tryd.func48, Tryd.ntmps48
  go_wp2
  go_loopw [4] (fun v4 wr => ∃ (k : Nat) (zs : List Nat), k ≤ s.size ∧ v4 = .int .i64 k ∧ Hid (Blk wr .i64 3 w.heap.size zs) ∧ Hid (zs.length = (s.size + 2) / 3) ∧ Hid (Dig 16777216 zs) ∧ Hid (val 16777216 zs = val 256 ((rb s).take k)) ∧ Below w.heap.size w wr) (fun v4 _ => s.size - (intOf v4).toNat)
  case atStart => exact ⟨0, _, by omega, rfl, HB, Lib.hid (by simp; omega), Lib.hid (Dig.replicate (by decide) _), Lib.hid (by simp [val, val_replicate]), HW⟩
  case round =>
    obtain ⟨k, zs, hk, rfl, hB, hz, hdz, hv, hbl⟩ := hrel
    clear HB HS HW hmk
    by_cases hkl : k < s.size
    · have hcz := hB.out.cell (i := k / 3) (by rw [hz.out]; omega)
      have hfz := hB.out.free (k / 3)
      go_wp2_with fail
      have i1 : (0:Int) ≤ (k : Int) / 3 := by omega
      have i2 : (k : Int) / 3 < ((s.size : Int) + 2) / 3 := by omega
      have i3 : (0:Int) ≤ (s.size : Int) - 1 - k := by omega
      have i4 : (s.size : Int) - 1 - k < (s.size : Int) := by omega
      have i8 : (k : Int) ≤ (s.size : Int) - 1 := by omega
      have i5 : (0:Int) ≤ 8 * ((k : Int) % 3) := by omega
      have i6 : 8 * ((k : Int) % 3) < 24 := by omega
      have q1 : IntKind.i64.wrap ((k : Int) / 3) = (k : Int) / 3 := wr64 (by omega) (by omega)
      have q2 : IntKind.i64.wrap ((k : Int) % 3) = (k : Int) % 3 := wr64 (by omega) (by omega)
      have q3 : IntKind.i64.wrap (8 * ((k : Int) % 3)) = 8 * ((k : Int) % 3) := wr64 (by omega) (by omega)
      have i7 : ((k : Int) / 3).toNat = k / 3 := by omega
      have q0 : ((k : Int)).tmod 3 = (k : Int) % 3 := Int.tmod_eq_emod_of_nonneg (by omega)
      refine region_tail 14 (by kernel_rfl) (by kernel_rfl) ?_
      simp only [List.take_succ_cons, List.take_zero, List.drop_succ_cons, List.drop_zero]
      repeat still_step
      refine wpStill_nil ?_
      clear q0 q1 q2 q3 i7
      go_wp2
      go_roundw
      case rel =>
        have hk3 : 3 * (k / 3) + k % 3 = k := Nat.div_add_mod k 3
        have hv2 : val 16777216 zs = val 256 ((rb s).take (3 * (k / 3) + k % 3)) := by rw [hk3]; exact hv.out
        have hd := of_digit3 zs (rb s) (k / 3) (k % 3) (by decide) hv2 (rb_Dig s)
        have hs1 := of_step3 zs (rb s) (k / 3) (k % 3) (by decide) (by rw [hz.out]; omega) hv2
        rw [hk3, gd_rb s k hkl] at hs1
        have hb := (s[s.size - 1 - k]'(by omega)).toNat_lt
        have hp : 256 ^ (k % 3) ≤ 65536 := by
          have : k % 3 = 0 ∨ k % 3 = 1 ∨ k % 3 = 2 := by omega
          rcases this with e | e | e <;> simp [e]
        have hm : (s[s.size - 1 - k]'(by omega)).toNat * 256 ^ (k % 3) ≤ 255 * 256 ^ (k % 3) := Nat.mul_le_mul_right _ (by omega)
        refine ⟨k + 1, _, by omega, by go_num, Lib.hid ?_, Lib.hid ?_, Lib.hid ?_, Lib.hid hs1, (hbl.trans ?_).setCell (Nat.le_refl _) _⟩
        · rw [shl3 _ _ _ (Nat.mod_lt _ (by decide)) (by omega) hb]
          exact (hB.out.drewN 1).set _ _
        · rw [List.length_set]; exact hz.out
        · exact hdz.out.set _ _ (by omega)
        · exact ((Below.refl _ _).drew)
      case measure => simp [intOf]; omega
    · obtain rfl : k = s.size := by omega
      go_wp2_with fail
      go_ret
      have hd : digs 16777216 (sv s) = zs := digs_full (by decide) hdz.out (by rw [hv.out, ← rb_length, List.take_length]; rfl) (HL.out.trans hz.out.symm)
      have hl := hz.out
      refine ⟨some ⟨w.heap.size, 0, none⟩, zs.length, ?_, ?_, ?_, hbl⟩
      · rw [hd]; exact ret_slice2 (by omega) (by omega)
      · rw [hd]; exact Nat.le_refl _
      · rw [hd]; exact hB.out.rd

end Go.Proofs.YtboolbcckfldaaaDoor
