import Derived.Test.YtboolbcckfldaaaDoorNum
import Derived.Test.YtboolbcckfldaaaDoorWalkV
namespace Go.Proofs.YtboolbcckfldaaaDoor
open Go.RowKit
set_option linter.unusedVariables false
set_option linter.unusedSimpArgs false
attribute [local go_sem] wrap_u8_mod

theorem make_u8 (w : World) (n : Int) (h0 : 0 ≤ n) (hn : n ≤ 10000000000) : ∃ w1, (Instr.makeSlice 92 (.int .i64 n) (.int .i64 n)).run Tryd.prog w = .ok (.slice (some ⟨w.heap.size, 0, none⟩) n.toNat n.toNat) w1 ∧ Blk w1 .u8 5 w.heap.size (List.replicate n.toNat 0) ∧ Below w.heap.size w w1 ∧ w1.heap.size = w.heap.size + 1 := by
  obtain ⟨i, hi, hz, hs, hb⟩ := info_parts info_u8
  exact make_blk w Tryd.underlying92 hi hz hs (by omega) n h0 hn

theorem bytes_string {P : Program} {w : World} {e src dst : TypeId} (b o c : Nat) (l : List Nat) (h : ∀ i, i < l.length → w.cell? ⟨b, o + i, none⟩ = some (.int .u8 (gd l i : Nat))) (hd : Dig 256 l) (hs : P.underlying src = some (.slice e)) (he : P.underlying e = some (.int .u8)) (hdst : P.underlying dst = some .string) :
    (convert src dst (.slice (some ⟨b, o, none⟩) l.length c)).run P w = .ok (.string ⟨(l.map UInt8.ofNat).toArray⟩) w := by
  have := run_convert_bytes_back (P := P) w src dst e ⟨b, o, none⟩ c (l.map UInt8.ofNat) hs he hdst (fun j hj => by
    rw [List.length_map] at hj
    have hx := hd _ (List.getElem_mem hj)
    have hc := h j hj
    rw [gd_get hj] at hc
    rw [List.getElem_map, UInt8.toNat_ofNat', Nat.mod_eq_of_lt hx]
    have ha : (Addr.mk b o none).add j = ⟨b, o + j, none⟩ := by
      unfold Addr.add
      split
      · rename_i h0; subst h0; rfl
      · rfl
    rw [ha]; exact hc)
  rwa [List.length_map] at this

set_option maxHeartbeats 1000000 in
set_option maxRecDepth 100000 in
theorem Rbytes_lists (A : Option Addr) (c : Nat) (xs : List Nat) (w : World) (hx : RdAt w .i64 A xs) (hl : xs.length ≤ 1000000000) (dx : Dig 16777216 xs) :
    Calls Tryd.prog 72 #[.slice A xs.length c] w fun e w' => e = .returned (.string (magB (val 16777216 xs))) ∧ Below w.heap.size w w' := by
  obtain ⟨w1, hmk, hbk, HW, hsz⟩ := make_u8 w (3 * (xs.length : Int)) (by omega) (by omega)
  rw [show (3 * (xs.length : Int)).toNat = 3 * xs.length from by omega] at hmk hbk
  have HB := Lib.hid hbk
  have HS := Lib.hid hsz
  clear hbk hsz
  have HX := Lib.hid hx
  have HDX := Lib.hid dx
  clear hx dx
  go_enter Tryd.func72, Tryd.ntmps72
  go_wp2_with fail
  go_loopw [4] (fun v4 wr => ∃ (i : Nat) (zs : List Nat), i ≤ 3 * xs.length ∧ v4 = .int .i64 i ∧ Hid (Blk wr .u8 5 w.heap.size zs) ∧ Hid (zs.length = 3 * xs.length) ∧ Hid (Dig 256 zs) ∧ Hid (∀ j, j < i → gd zs (3 * xs.length - 1 - j) = by3 xs j) ∧ Below w.heap.size w wr) (fun v4 _ => 3 * xs.length - (intOf v4).toNat)
  case atStart => exact ⟨0, _, by omega, rfl, HB, Lib.hid (by simp), Lib.hid (Dig.replicate (by decide) _), Lib.hid (fun j hj => by omega), HW⟩
  case round =>
    obtain ⟨i, zs, hi, rfl, hB, hzl, hdz, hz, hbl⟩ := hrel
    clear HB HS HW hmk
    by_cases hil : i < 3 * xs.length
    · obtain ⟨b, o, rfl, hcl⟩ := HX.out (i / 3) (by omega)
      have hcl' := below_cell hbl hcl (lt_of_cell hcl)
      have hg1 := HDX.out.gd (by decide) (i / 3)
      have hfree := hB.out.free (3 * xs.length - 1 - i)
      have hcell := hB.out.cell (i := 3 * xs.length - 1 - i) (by rw [hzl.out]; omega)
      clear hcl
      have hv : ((gd xs (i / 3) : Nat) : Int) / 2 ^ (8 * (i % 3)) % 256 = ((by3 xs i : Nat) : Int) := by
        unfold by3
        rw [Int.natCast_emod, Int.natCast_ediv, Int.natCast_pow]; rfl
      have HV := Lib.hid hv
      clear hv
      go_wp2_with fail
      go_roundw
      case rel =>
        refine ⟨i + 1, zs.set (3 * xs.length - 1 - i) (by3 xs i), by omega, rfl, Lib.hid ?_, Lib.hid (by simp [hzl.out]), Lib.hid (hdz.out.set _ _ (by3_lt xs i)), Lib.hid (fun j hj => ?_), hbl.setCell (by simp) _⟩
        · rw [HV.out]; exact hB.out.set _ _
        · by_cases hji : j = i
          · subst hji; rw [gd_set_eq _ (by rw [hzl.out]; omega)]
          · rw [gd_set_ne _ _ (by omega)]; exact hz.out j (by omega)
      case measure => simp [intOf]; omega
    · have hie : i = 3 * xs.length := by omega
      have hzs := rev_le3 xs zs hzl.out (fun j hj => hz.out j (by omega))
      have HZ := Lib.hid hzs
      have HI := Lib.hid hie
      clear hzs hz hie
      go_wp2_with fail
      clear hil hi
      go_loopw [3] (fun v3 wr => ∃ p q, p ≤ 3 * xs.length ∧ (p < 3 * xs.length → q = p) ∧ v3 = .slice (some ⟨w.heap.size, q, none⟩) (3 * xs.length - p) (3 * xs.length - p) ∧ Hid (∀ i, i < p → gd zs i = 0) ∧ Hid (Blk wr .u8 5 w.heap.size zs) ∧ Below w.heap.size w wr) (fun v3 _ => lenOf v3)
      case atStart => exact ⟨0, 0, by omega, fun _ => rfl, rfl, Lib.hid (fun i hi => by omega), hB, hbl⟩
      case round =>
        clear hB hbl
        obtain ⟨p, q, hp, hq, rfl, h0, hB, hbl⟩ := hrel
        have hcv : (p < 3 * xs.length → gd zs p ≠ 0) → (convert 92 9 (.slice (some ⟨w.heap.size, q, none⟩) (3 * xs.length - p) (3 * xs.length - p))).run Tryd.prog wr = .ok (.string (magB (val 16777216 xs))) wr := fun hst => by
          have h1 := bytes_string (P := Tryd.prog) (w := wr) (src := 92) (dst := 9) w.heap.size q (3 * xs.length - p) (zs.drop p) (fun i hi => by
            rw [List.length_drop, hzl.out] at hi
            rw [hq (by omega), gd_drop]
            exact hB.out.cell (by rw [hzl.out]; omega)) (hdz.out.drop p) Tryd.underlying92 Tryd.underlying5 Tryd.underlying9
          rw [List.length_drop, hzl.out] at h1
          have h2 : zs.drop p = (digs 256 (val 16777216 xs)).reverse := by
            rw [← trim_le3 xs HDX.out, ← HZ.out, dropWhile_take_zero zs p h0.out (by rw [hzl.out]; exact hp)]
            refine (dropWhile_stop _ ?_).symm
            by_cases hpl : p < 3 * xs.length
            · right; rw [gd_drop]; exact hst hpl
            · left; exact List.drop_of_length_le (by rw [hzl.out]; omega)
          rw [h1, h2]
          rfl
        by_cases hpl : p < 3 * xs.length
        · obtain rfl := hq hpl
          have hcell := hB.out.cell (i := q) (by rw [hzl.out]; omega)
          by_cases hg : gd zs q = 0
          · rw [hg] at hcell
            have HG := Lib.hid hg
            clear hg hcv hq
            have hnext : Hid (∀ i, i < q + 1 → gd zs i = 0) := Lib.hid (fun i hi => by
              by_cases h : i = q
              · rw [h]; exact HG.out
              · exact h0.out i (by omega))
            by_cases h1 : 3 * xs.length - q = 1
            · go_wp2_with fail
              refine ⟨⟨q + 1, q, by omega, fun h => by omega, by rw [show 3 * xs.length - (q + 1) = 0 by omega], hnext, hB, hbl⟩, by simp [lenOf]; omega⟩
            · go_wp2_with fail
              go_roundw
              case rel => exact ⟨q + 1, q + 1, by omega, fun h => rfl, by rw [show 3 * xs.length - (q + 1) = 3 * xs.length - q - 1 by omega], hnext, hB, hbl⟩
              case measure => simp [lenOf]; omega
          · have hgI : ((gd zs q : Nat) : Int) ≠ 0 := by omega
            have hc2 := hcv (fun _ => hg)
            clear hcv hq hg
            go_wp2_with fail
            go_ret
            exact ⟨rfl, hbl⟩
        · obtain rfl : p = 3 * xs.length := by omega
          have hc2 := hcv (fun h => absurd h hpl)
          rw [Nat.sub_self] at hc2
          clear hcv hq hpl
          go_wp2_with fail
          go_ret
          exact ⟨rfl, hbl⟩
end Go.Proofs.YtboolbcckfldaaaDoor
