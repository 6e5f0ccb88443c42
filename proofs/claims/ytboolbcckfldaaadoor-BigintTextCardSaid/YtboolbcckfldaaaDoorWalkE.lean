/- The program's natural numbers: products. -/
import Derived.Test.YtboolbcckfldaaaDoorWalkD
import Derived.Test.YtboolbcckfldaaaDoorNum
namespace Go.Proofs.YtboolbcckfldaaaDoor
open Go.RowKit
set_option linter.unusedVariables false
set_option linter.unusedSimpArgs false

/-- only the block b may have changed -/
structure Only (b : Nat) (w w' : World) : Prop where
  os : w'.os = w.os
  tape : w'.tape = w.tape
  output : w'.output = w.output
  size : w'.heap.size = w.heap.size
  block : ∀ k, k ≠ b → w'.heap[k]? = w.heap[k]?
theorem Only.refl (b : Nat) (w : World) : Only b w w := ⟨rfl, rfl, rfl, rfl, fun _ _ => rfl⟩
theorem Only.trans {b : Nat} {a c w : World} (h : Only b a c) (k : Only b c w) : Only b a w :=
  ⟨k.os.trans h.os, k.tape.trans h.tape, k.output.trans h.output, k.size.trans h.size, fun i hi => (k.block i hi).trans (h.block i hi)⟩
theorem Only.drewN {b : Nat} {a w : World} (h : Only b a w) (n : Nat) : Only b a (w.drewN n) := ⟨h.os, h.tape, h.output, h.size, h.block⟩
theorem Only.set {b : Nat} {a w : World} (h : Only b a w) (i : Nat) (v : Value) : Only b a (w.setCell ⟨b, i, none⟩ v) :=
  h.trans ⟨rfl, rfl, rfl, by simp [World.setCell], fun k hk => Below.heap_setCell _ _ _ _ hk⟩
theorem Only.below {b B : Nat} {w w' : World} (h : Only b w w') (hB : B ≤ b) : Below B w w' := ⟨h.os, h.tape, h.output, by rw [h.size]; exact Nat.le_refl _, fun k hk => h.block k (by omega)⟩

def RetPut (M b t : Nat) (n T : Nat) (w : World) (e : Ending) (w' : World) : Prop :=
  e = .returned (.tuple #[]) ∧ ∃ zs, Blk w' .u32 t b zs ∧ zs.length = n ∧ Dig M zs ∧ val M zs = T ∧ Only b w w'

set_option maxHeartbeats 1000000 in
set_option maxRecDepth 100000 in
theorem put_any (b at' x y : Nat) (zs : List Nat) (w : World) (hB : Hid (Blk w .u32 58 b zs)) (hl : zs.length ≤ 2100000000) (ha : at' + 1 < zs.length) (hx : x < 4294967296) (hy : y < 4294967296) (hd : Hid (Dig 4294967296 zs))
    (hT : Hid (val 4294967296 zs + 4294967296 ^ at' * (x * y) < 4294967296 ^ zs.length)) :
    Calls Tryd.prog 66 #[.slice (some ⟨b, 0, none⟩) zs.length zs.length, .int .i64 (at' : Int), .int .u32 (x : Int), .int .u32 (y : Int)] w (RetPut 4294967296 b 58 zs.length (val 4294967296 zs + 4294967296 ^ at' * (x * y)) w) := by
  have hxy := mul_lt32 (x := x) (y := y) (by omega) (by omega) (by omega) (by omega)
  obtain ⟨hxy0, hxy1⟩ := hxy
  have hc0 := hB.out.cell (i := at') (by omega)
  have hf0 := hB.out.free at'
  have hg0 := hd.out.gd (by decide) at'
  have hc1 := hB.out.cell (i := at' + 1) (by omega)
  have hf1 := hB.out.free (at' + 1)
  have hg1 := hd.out.gd (by decide) (at' + 1)
  go_enter Tryd.func66, Tryd.ntmps66
  go_wp2_with (first
    | (go_at_call 82; refine (mul32_any _ _ _ (by omega) (by omega) (by omega) (by omega)).mono ?_; rintro e w' ⟨rfl, rfl⟩)
    | (go_at_call 64; refine (add32_any _ _ _ _ (by omega) (by omega) (by omega) (by omega) (by omega) (by omega)).mono ?_; rintro e w' ⟨rfl, rfl⟩))
  go_loopw [10, 11] (fun v10 v11 wr => ∃ (c i : Nat) (ys : List Nat), c ≤ 1 ∧ i ≤ zs.length + 1 ∧ v10 = .int .u32 c ∧ v11 = .int .i64 i ∧ Hid (Blk wr .u32 58 b ys) ∧ Hid (ys.length = zs.length) ∧ Hid (Dig 4294967296 ys) ∧ Hid (val 4294967296 ys + 4294967296 ^ i * c = val 4294967296 zs + 4294967296 ^ at' * (x * y)) ∧ Only b w wr) (fun _ v11 _ => zs.length - (intOf v11).toNat)
  case atStart =>
    obtain ⟨p, hpq⟩ : ∃ p, p = x * y := ⟨_, rfl⟩
    have hp : ((x : Int) * (y : Int)) = (p : Int) := by rw [hpq]; exact (Int.natCast_mul x y).symm
    have hst := put_start 4294967296 zs at'
    rw [hp] at hxy0 hxy1
    rw [← hpq]
    simp only [hp]
    clear hp hpq hT
    refine ⟨((gd zs (at' + 1) + p / 4294967296 + (gd zs at' + p % 4294967296) / 4294967296) / 4294967296), at' + 2,
      (zs.set at' ((gd zs at' + p) % 4294967296)).set (at' + 1) ((gd zs (at' + 1) + p / 4294967296 + (gd zs at' + p % 4294967296) / 4294967296) % 4294967296), by omega, by omega, ?_, ?_, Lib.hid ?_, Lib.hid ?_, Lib.hid ?_, Lib.hid ?_, ((Only.refl b w).set _ _).set _ _⟩
    · exact congrArg (Value.int .u32) (by omega)
    · exact congrArg (Value.int .i64) (by omega)
    · have h1 := (hB.out.set at' ((gd zs at' + p) % 4294967296)).set (at' + 1) ((gd zs (at' + 1) + p / 4294967296 + (gd zs at' + p % 4294967296) / 4294967296) % 4294967296)
      exact h1
    · simp
    · exact (hd.out.set _ _ (by omega)).set _ _ (by omega)
    · exact hst p _ ((gd zs at' + p % 4294967296) / 4294967296) _ _ ha (by omega) (by omega)
  case round =>
    obtain ⟨c, i, ys, hc, hi, rfl, rfl, hb, hyl, hyd, hv, ho⟩ := hrel
    clear hc0 hf0 hc1 hf1
    by_cases h0 : c = 0
    · subst h0
      go_wp2
      go_end0
      exact ⟨rfl, ys, hb.out, hyl.out, hyd.out, by have := hv.out; rwa [Nat.mul_zero, Nat.add_zero] at this, ho⟩
    · obtain rfl : c = 1 := by omega
      have hin := carry_in (by decide) hv.out hT.out
      have hcz := hb.out.cell (i := i) (by rw [hyl.out]; exact hin)
      have hfz := hb.out.free i
      have hgz := hyd.out.gd (by decide) i
      rw [show (((1 : Nat) : Int)) = 1 from rfl]
      go_wp2_with (go_at_call 64; refine (add32_any _ _ _ _ (by omega) (by omega) (by omega) (by omega) (by omega) (by omega)).mono ?_; rintro e w' ⟨rfl, rfl⟩)
      go_roundw
      case rel =>
        refine ⟨(gd ys i + 1) / 4294967296, i + 1, ys.set i ((gd ys i + 1) % 4294967296), by omega, by omega, congrArg (Value.int .u32) (by omega), by go_num, Lib.hid ?_, Lib.hid (by simp [hyl.out]), Lib.hid (hyd.out.set _ _ (by omega)), Lib.hid ?_, ho.set _ _⟩
        · exact hb.out.set i ((gd ys i + 1) % 4294967296)
        · rw [digit_add 4294967296 ys i _ _ 1 (by rw [hyl.out]; exact hin) (by omega)]
          exact hv.out
      case measure => simp [intOf]; omega

theorem take_len_val (M : Nat) (xs : List Nat) : val M (xs.take xs.length) = val M xs := by rw [List.take_length]

set_option maxHeartbeats 1000000 in
set_option maxRecDepth 100000 in
theorem mul_lists (A B : Option Addr) (c d : Nat) (xs ys : List Nat) (w : World) (hx : RdAt w .u32 A xs) (hy : RdAt w .u32 B ys) (hl : xs.length ≤ 1000000000) (hm : ys.length ≤ 1000000000) (dx : Dig 4294967296 xs) (dy : Dig 4294967296 ys) :
    Calls Tryd.prog 43 #[.slice A xs.length c, .slice B ys.length d] w (RetD .u32 4294967296 (val 4294967296 xs * val 4294967296 ys) w) := by
  obtain ⟨w1, hmk, hbk, HW, hsz⟩ := make_prod w ((xs.length : Int) + ys.length + 1) (by omega) (by omega)
  have HS := Lib.hid hsz
  have HB := Lib.hid hbk
  clear hsz hbk
  have HX := Lib.hid hx
  have HY := Lib.hid hy
  have HDX := Lib.hid dx
  have HDY := Lib.hid dy
  clear hx hy dx dy
  go_enter Tryd.func43, Tryd.ntmps43
  go_wp2
  go_loopw [22] (fun v22 wr => ∃ (i : Nat) (zs : List Nat), i ≤ xs.length ∧ v22 = .int .i64 i ∧ Hid (Blk wr .u32 58 w.heap.size zs) ∧ Hid (zs.length = xs.length + ys.length + 1) ∧ Hid (Dig 4294967296 zs) ∧ Hid (val 4294967296 zs = val 4294967296 (xs.take i) * val 4294967296 ys) ∧ Below w.heap.size w wr) (fun v22 _ => xs.length - (intOf v22).toNat)
  case atStart => exact ⟨0, _, by omega, rfl, HB, Lib.hid (by simp; omega), Lib.hid (Dig.replicate (by decide) _), Lib.hid (by rw [val_replicate]; simp [val]), HW⟩
  case round =>
    obtain ⟨i, zs, hi, rfl, hB, hz, hdz, hv, hbl⟩ := hrel
    clear HB HS HW hmk
    by_cases hil : i < xs.length
    · obtain ⟨b, o, rfl, hcl⟩ := HX.out i hil
      have hcl' := below_cell hbl hcl (lt_of_cell hcl)
      have hg1 := HDX.out.gd (by decide) i
      clear hcl
      obtain ⟨wo, rfl⟩ : ∃ wo : World, wo = wr := ⟨_, rfl⟩
      go_wp2
      go_loopw [29] (fun v29 wr => ∃ (k : Nat) (zs : List Nat), k ≤ ys.length ∧ v29 = .int .i64 k ∧ Hid (Blk wr .u32 58 w.heap.size zs) ∧ Hid (zs.length = xs.length + ys.length + 1) ∧ Hid (Dig 4294967296 zs) ∧ Hid (val 4294967296 zs = val 4294967296 (xs.take i) * val 4294967296 ys + 4294967296 ^ i * (gd xs i * val 4294967296 (ys.take k))) ∧ Below w.heap.size w wr) (fun v29 _ => ys.length - (intOf v29).toNat)
      case atStart => exact ⟨0, zs, by omega, rfl, hB, hz, hdz, Lib.hid (by rw [hv.out]; simp [val]), hbl⟩
      case round =>
        clear hv hbl hcl' hB hz hdz
        obtain ⟨k, zs, hk, rfl, hB, hz, hdz, hv, hbl⟩ := hrel
        by_cases hkl : k < ys.length
        · obtain ⟨b1, o1, rfl, hcl1⟩ := HY.out k hkl
          have hcl1' := below_cell hbl hcl1 (lt_of_cell hcl1)
          have hg2 := HDY.out.gd (by decide) k
          clear hcl1
          go_wp2_with fail
          have hlz : i + k + 1 < zs.length := by rw [hz.out]; omega
          have hzl : zs.length ≤ 2100000000 := by rw [hz.out]; omega
          have hrow := mul_row 4294967296 i k _ _ (gd xs i) (gd ys k) _ hv.out
          rw [← val_take_succ'] at hrow
          have hbd := mul_bound (M := 4294967296) (by decide) HDX.out HDY.out i (k + 1) hil hkl
          have hc := put_any w.heap.size (i + k) (gd xs i) (gd ys k) zs wr hB hzl hlz hg1 hg2 hdz (by rw [Hid, hrow, hz.out]; exact hbd)
          rw [hz.out, hrow] at hc
          have HC := Lib.hid hc
          clear hc hrow hbd hlz hzl
          rw [show ((i : Int) + (k : Int)) = ((i + k : Nat) : Int) from rfl]
          refine HC.out.mono ?_
          rintro e w' ⟨rfl, zs', hB', hz', hd', hv', ho⟩
          have HB' := Lib.hid hB'
          have HZ' := Lib.hid hz'
          have HD' := Lib.hid hd'
          have HV' := Lib.hid hv'
          have hbl' := hbl.trans (ho.below (Nat.le_refl _))
          clear hB' hz' hd' hv' ho hcl1' HC
          go_wp2
          go_roundw
          case rel => exact ⟨k + 1, zs', by omega, by go_num, HB', HZ', HD', HV', hbl'⟩
          case measure => simp [intOf]; omega
        · obtain rfl : k = ys.length := by omega
          go_wp2
          go_roundw
          case rel =>
            refine ⟨i + 1, zs, by omega, by go_num, hB, hz, hdz, Lib.hid ?_, hbl⟩
            rw [hv.out, take_len_val, val_take_succ', Nat.add_mul, Nat.mul_assoc]
          case measure => simp [intOf]; omega
    · obtain rfl : i = xs.length := by omega
      go_wp2_with (go_at_call 59; refine (trim_any _ _ _ zs _ hz (Lib.hid hB.out.rd) (by omega) (by omega)).mono ?_; rintro e w' ⟨rfl, rfl⟩)
      go_ret
      refine RetD.of_blk hB.out hbl ?_ (by rw [hz.out]; exact Nat.le_refl _)
      rw [← digs_val (by decide) hdz.out, hv.out, take_len_val]

theorem mul_any (A B : Option Addr) (c d x y : Nat) (w : World) (hx : RdAt w .u32 A (digs 4294967296 x)) (hy : RdAt w .u32 B (digs 4294967296 y)) (hl : (digs 4294967296 x).length ≤ 1000000000) (hm : (digs 4294967296 y).length ≤ 1000000000) :
    Calls Tryd.prog 43 #[.slice A (digs 4294967296 x).length c, .slice B (digs 4294967296 y).length d] w (RetD .u32 4294967296 (x * y) w) := by
  have vx := val_digs (B := 4294967296) (by decide) x
  have vy := val_digs (B := 4294967296) (by decide) y
  have := mul_lists A B c d _ _ w hx hy hl hm (digs_Dig (by decide) x) (digs_Dig (by decide) y)
  rwa [vx, vy] at this
end Go.Proofs.YtboolbcckfldaaaDoor
