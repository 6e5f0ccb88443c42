import Derived.Test.YtboolbcckfldaaaDoorRefH
import Derived.Test.YtboolbcckfldaaaDoorLawB
namespace Go.Proofs.YtboolbcckfldaaaDoor
open Go.RowKit
set_option linter.unusedVariables false
set_option linter.unusedSimpArgs false

theorem twice_step (M : Nat) (zs xs : List Nat) (k cy s c' bit : Nat) (hk : k < zs.length) (h : val M (zs.take k) + M ^ k * cy = 2 * val M (xs.take k) + bit) (h2 : s + M * c' = 2 * gd xs k + cy) :
    val M ((zs.set k s).take (k + 1)) + M ^ (k + 1) * c' = 2 * val M (xs.take (k + 1)) + bit := by
  rw [val_set_take M s hk, val_take_succ', Nat.pow_succ, Nat.mul_add, Nat.mul_assoc]
  have e : M ^ k * (s + M * c') = M ^ k * (2 * gd xs k + cy) := by rw [h2]
  rw [Nat.mul_add, Nat.mul_add] at e
  have e2 : M ^ k * (2 * gd xs k) = 2 * (M ^ k * gd xs k) := Nat.mul_left_comm _ _ _
  omega
theorem twice_end {M : Nat} (hM : 2 ≤ M) (zs xs : List Nat) (n cy bit : Nat) (hl : zs.length = n + 1) (hx : xs.length ≤ n) (hd : Dig M zs) (hc : cy < M) (h : val M (zs.take n) + M ^ n * cy = 2 * val M (xs.take n) + bit) :
    trimL (zs.set n cy) = digs M (2 * val M xs + bit) := by
  rw [← digs_val hM (hd.set n cy hc)]
  congr 1
  have h1 := val_set_take M cy (show n < zs.length by omega)
  rw [List.take_of_length_le (by simp; omega)] at h1
  rw [h1, h, List.take_of_length_le hx]

set_option maxHeartbeats 1000000 in
set_option maxRecDepth 100000 in
theorem Rtwice_any (A : Option Addr) (c x bit : Nat) (w : World) (hx : RdAt w .i64 A (digs 16777216 x)) (hl : (digs 16777216 x).length ≤ 1000000000) (hb : bit ≤ 1) :
    Calls Tryd.prog 51 #[.slice A (digs 16777216 x).length c, .int .i64 bit] w (RetD .i64 16777216 (2 * x + bit) w) := by
  have HX := Lib.hid hx
  have HDX := Lib.hid (digs_Dig (B := 16777216) (by decide) x)
  have HV := Lib.hid (val_digs (B := 16777216) (by decide) x)
  generalize digs 16777216 x = xs at *
  obtain ⟨w1, hmk, hbk, HW, hsz⟩ := make_rnat w ((xs.length : Int) + 1) (by omega) (by omega)
  have HS := Lib.hid hsz
  have HB := Lib.hid hbk
  clear hsz hbk hx
  go_enter Tryd.func51, Tryd.ntmps51
  go_wp2_with fail
  go_loopw [6, 7] (fun v6 v7 wr => ∃ (k cy : Nat) (zs : List Nat), k ≤ xs.length ∧ cy ≤ 1 ∧ v7 = .int .i64 k ∧ v6 = .int .i64 cy ∧ Hid (Blk wr .i64 3 w.heap.size zs) ∧ Hid (zs.length = xs.length + 1) ∧ Hid (Dig 16777216 zs) ∧ Hid (val 16777216 (zs.take k) + 16777216 ^ k * cy = 2 * val 16777216 (xs.take k) + bit) ∧ Below w.heap.size w wr) (fun _ v7 _ => xs.length - (intOf v7).toNat)
  case atStart => exact ⟨0, bit, _, by omega, hb, rfl, rfl, HB, Lib.hid (by simp), Lib.hid (Dig.replicate (by decide) _), Lib.hid (by simp [val]), HW⟩
  case round =>
    obtain ⟨k, cy, zs, hk, hcy, rfl, rfl, hB, hz, hdz, hv, hbl⟩ := hrel
    clear HB HS HW hmk
    by_cases hkl : k < xs.length
    · obtain ⟨b, o, rfl, hcl⟩ := HX.out k hkl
      have hcl' := below_cell hbl hcl (lt_of_cell hcl)
      have hg1 := HDX.out.gd (by decide) k
      have hlz : k < zs.length := by rw [hz.out]; omega
      have hcz := hB.out.cell hlz
      have hfz := hB.out.free k
      clear hcl hlz
      go_wp2_with fail
      go_roundw
      case rel =>
        refine ⟨k + 1, ((cy : Int) + 2 * (gd xs k : Nat)).toNat / 16777216, zs.set k (((cy : Int) + 2 * (gd xs k : Nat)) % 16777216).toNat, by omega, by omega, by go_num, ?_, Lib.hid (hB.out.setI k (by omega)), Lib.hid (by simp [hz.out]), Lib.hid (hdz.out.set _ _ (by omega)), Lib.hid (twice_step _ _ _ _ _ _ _ _ (by rw [hz.out]; omega) hv.out (by omega)), hbl.setCell (Nat.le_refl _) _⟩
        first | rfl | (congr 1; omega)
      case measure => simp [intOf]; omega
    · obtain rfl : k = xs.length := by omega
      have hcz := hB.out.cell (i := xs.length) (by rw [hz.out]; omega)
      have hfz := hB.out.free xs.length
      have hB2 := Lib.hid (hB.out.set xs.length cy)
      go_wp2_with (go_at_call 62; refine (Rtrim_any _ _ _ (zs.set xs.length cy) _ (by rw [Hid, List.length_set]; exact hz.out) (Lib.hid hB2.out.rd) (by omega) (by omega)).mono ?_; rintro e w' ⟨rfl, rfl⟩)
      go_ret
      have h1 := twice_end (by decide) zs xs _ cy bit hz.out (Nat.le_refl _) hdz.out (by omega) hv.out
      rw [HV.out] at h1
      exact RetD.of_blk hB2.out (hbl.setCell (Nat.le_refl _) _) h1 (by simp [hz.out])

set_option maxHeartbeats 2000000 in
set_option maxRecDepth 100000 in
theorem RInt64_bigneg (s : ByteArray) (w : World) (h : vld true s = true) (hl : s.size ≤ 8) (hm : 9223372036854775808 < sv s) : Calls Tryd.prog 24 #[.agg #[.bool true, .string s]] w (RetNB 0 false w) := by
  have h0 := Ob.new w 23 #[.bool true, .string s]
  have b0 : Below w.heap.size w (w.alloc (.cells #[.bool true, .string s] 23)) := (Below.refl _ _).alloc (Nat.le_refl _) _
  have hl' : ¬ (8 : Int) < s.size := by omega
  have HM := Lib.hid hm
  have HV := fun W => Lib.hid (RValid_any true s W)
  rw [h] at HV
  clear hm h
  go_enter Tryd.func24, Tryd.ntmps24
  go_wp2_with fail
  generalize World.alloc w _ = W0 at h0 b0 ⊢
  refine (HV W0).out.mono ?_
  rintro e W1 ⟨rfl, hb⟩
  have h1 := h0.below hb h0.lt
  have b1 := b0.trans (hb.mono b0.size)
  clear hb h0 b0 HV
  obtain ⟨x0, x1⟩ := h1.cells2
  go_wp2_with fail
  go_loop [4, 5] (fun v4 v5 => ∃ k : Nat, k ≤ s.size ∧ v5 = .int .i64 k ∧ v4 = .int .u64 ((be (s.data.toList.take k) : Nat) : Int)) (fun _ v5 => s.size - (intOf v5).toNat)
  case atStart => exact ⟨0, Nat.zero_le _, rfl, rfl⟩
  case round =>
    obtain ⟨k, hk, rfl, rfl⟩ := hrel
    rcases Nat.lt_or_ge k s.size with hks | hks
    · have e1 := be_take s k hks
      have e2 := be_take_lt s k
      have e3 := pow256_7 (k := k) (by omega)
      have e4 := s[k].toNat_lt
      generalize be (s.data.toList.take k) = V at *
      have e5 : V < 72057594037927936 := by omega
      have E1 := Lib.hid e1
      clear e1 e2 e3
      have e6 : IntKind.u64.wrap ((V : Int) * 256) = (V : Int) * 256 := by rw [u64_wrap]; omega
      go_wp2_with fail
      go_round
      case rel => exact ⟨k + 1, by omega, by go_num, by rw [E1.out]; exact congrArg (Value.int .u64) (by omega)⟩
      case measure => simp [intOf]; omega
    · have e1 := be_take_all s k hks
      rw [e1]
      have hm := HM.out
      clear e1
      generalize sv s = m at *
      have hmI : ¬ (m : Int) ≤ 9223372036854775808 := by omega
      clear hm
      generalize (m : Int) = M at *
      go_wp2_with fail
      go_ret2
      exact ⟨ret_nb (by rfl), b1⟩
set_option maxHeartbeats 2000000 in
set_option maxRecDepth 100000 in
theorem RInt64_bigpos (s : ByteArray) (w : World) (h : vld false s = true) (hl : s.size ≤ 8) (hm : 9223372036854775808 ≤ sv s) : Calls Tryd.prog 24 #[.agg #[.bool false, .string s]] w (RetNB 0 false w) := by
  have h0 := Ob.new w 23 #[.bool false, .string s]
  have b0 : Below w.heap.size w (w.alloc (.cells #[.bool false, .string s] 23)) := (Below.refl _ _).alloc (Nat.le_refl _) _
  have hl' : ¬ (8 : Int) < s.size := by omega
  have HM := Lib.hid hm
  have HV := fun W => Lib.hid (RValid_any false s W)
  rw [h] at HV
  clear hm h
  go_enter Tryd.func24, Tryd.ntmps24
  go_wp2_with fail
  generalize World.alloc w _ = W0 at h0 b0 ⊢
  refine (HV W0).out.mono ?_
  rintro e W1 ⟨rfl, hb⟩
  have h1 := h0.below hb h0.lt
  have b1 := b0.trans (hb.mono b0.size)
  clear hb h0 b0 HV
  obtain ⟨x0, x1⟩ := h1.cells2
  go_wp2_with fail
  go_loop [4, 5] (fun v4 v5 => ∃ k : Nat, k ≤ s.size ∧ v5 = .int .i64 k ∧ v4 = .int .u64 ((be (s.data.toList.take k) : Nat) : Int)) (fun _ v5 => s.size - (intOf v5).toNat)
  case atStart => exact ⟨0, Nat.zero_le _, rfl, rfl⟩
  case round =>
    obtain ⟨k, hk, rfl, rfl⟩ := hrel
    rcases Nat.lt_or_ge k s.size with hks | hks
    · have e1 := be_take s k hks
      have e2 := be_take_lt s k
      have e3 := pow256_7 (k := k) (by omega)
      have e4 := s[k].toNat_lt
      generalize be (s.data.toList.take k) = V at *
      have e5 : V < 72057594037927936 := by omega
      have E1 := Lib.hid e1
      clear e1 e2 e3
      have e6 : IntKind.u64.wrap ((V : Int) * 256) = (V : Int) * 256 := by rw [u64_wrap]; omega
      go_wp2_with fail
      go_round
      case rel => exact ⟨k + 1, by omega, by go_num, by rw [E1.out]; exact congrArg (Value.int .u64) (by omega)⟩
      case measure => simp [intOf]; omega
    · have e1 := be_take_all s k hks
      rw [e1]
      have hm := HM.out
      clear e1
      generalize sv s = m at *
      have hmI : ¬ (m : Int) < 9223372036854775808 := by omega
      clear hm
      generalize (m : Int) = M at *
      go_wp2_with fail
      go_ret2
      exact ⟨ret_nb (by rfl), b1⟩

set_option maxHeartbeats 1000000 in
set_option maxRecDepth 100000 in
theorem RInt64_bad (n : Bool) (s : ByteArray) (w : World) (h : vld n s = false) : Calls Tryd.prog 24 #[.agg #[.bool n, .string s]] w (RetNB 0 false w) := by
  have H1 := fun W => Lib.hid (RValid_no n s W h)
  clear h
  go_enter Tryd.func24, Tryd.ntmps24
  go_wp2_with fail
  have t1 := Ob.new (w) 23 #[.bool n, .string s]
  have bl := ((Below.refl w.heap.size w).alloc (Nat.le_refl _) (.cells #[.bool n, .string s] 23))
  try simp only [World.size_alloc] at t1
  generalize World.alloc w _ = W1 at t1 bl ⊢
  refine ((H1 W1).out).mono ?_
  rintro e W2 ⟨rfl, hb⟩
  have t1 := t1.below hb t1.lt
  have bl := bl.trans (Below.mono hb bl.size)
  clear hb
  go_wp2_with fail
  go_ret2
  exact ⟨rfl, bl⟩
set_option maxHeartbeats 1000000 in
set_option maxRecDepth 100000 in
theorem RInt64_long (n : Bool) (s : ByteArray) (w : World) (h : vld n s = true) (hl : 8 < s.size) : Calls Tryd.prog 24 #[.agg #[.bool n, .string s]] w (RetNB 0 false w) := by
  have H1 : ∀ W, Hid (Calls Tryd.prog 33 #[.agg #[.bool n, .string s]] W (RetB true W)) := fun W => Lib.hid (by have := RValid_any n s W; rwa [h] at this)
  have hl' : (8 : Int) < s.size := by omega
  clear h
  go_enter Tryd.func24, Tryd.ntmps24
  go_wp2_with fail
  have t1 := Ob.new (w) 23 #[.bool n, .string s]
  have bl := ((Below.refl w.heap.size w).alloc (Nat.le_refl _) (.cells #[.bool n, .string s] 23))
  try simp only [World.size_alloc] at t1
  generalize World.alloc w _ = W1 at t1 bl ⊢
  refine ((H1 W1).out).mono ?_
  rintro e W2 ⟨rfl, hb⟩
  have t1 := t1.below hb t1.lt
  have bl := bl.trans (Below.mono hb bl.size)
  clear hb
  obtain ⟨c0_0, c0_1⟩ := t1.cells2
  go_wp2_with fail
  clear c0_0 c0_1
  go_ret2
  exact ⟨rfl, bl⟩
theorem RInt64_any (z : Int) (w : World) : Calls Tryd.prog 24 #[vI z] w (RetNB (if fits64 z then z else 0) (fits64 z) w) := by
  have hv := vld_sg z
  have hz := sv_mg z
  rcases Nat.lt_or_ge 8 (mg z).size with h8 | h8
  · have : fits64 z = false := by
      unfold fits64
      rw [decide_eq_false_iff_not]
      intro h
      have hb : Bd 8 z := by unfold Bd; omega
      have := hb.size
      omega
    rw [this]
    exact RInt64_long _ _ w hv h8
  · by_cases hn : z < 0
    · have e : sg z = true := by unfold sg; simpa using hn
      rw [e] at hv
      simp only [vI, e]
      by_cases hf : z.natAbs ≤ 9223372036854775808
      · have : fits64 z = true := by unfold fits64; rw [decide_eq_true_iff]; omega
        rw [this]
        have h := RInt64_neg (mg z) w hv h8 (by omega)
        rw [hz] at h
        rwa [show -((z.natAbs : Nat) : Int) = z from by omega] at h
      · have : fits64 z = false := by unfold fits64; rw [decide_eq_false_iff_not]; omega
        rw [this]
        exact RInt64_bigneg (mg z) w hv h8 (by omega)
    · have e : sg z = false := by unfold sg; simpa using hn
      rw [e] at hv
      simp only [vI, e]
      by_cases hf : z.natAbs < 9223372036854775808
      · have : fits64 z = true := by unfold fits64; rw [decide_eq_true_iff]; omega
        rw [this]
        have h := RInt64_pos (mg z) w hv h8 (by omega)
        rw [hz] at h
        rwa [show ((z.natAbs : Nat) : Int) = z from by omega] at h
      · have : fits64 z = false := by unfold fits64; rw [decide_eq_false_iff_not]; omega
        rw [this]
        exact RInt64_bigpos (mg z) w hv h8 (by omega)
theorem i64_and_nat (a b : Nat) (ha : a < 9223372036854775808) (hb : b < 9223372036854775808) : bits .and .i64 (a : Int) (b : Int) = ((a &&& b : Nat) : Int) := by
  have hx : a &&& b < 2 ^ 63 := Nat.and_lt_two_pow _ (by omega)
  show IntKind.i64.wrap ((BitVec.ofInt 64 (a : Int) &&& BitVec.ofInt 64 (b : Int)).toNat : Int) = _
  rw [BitVec.toNat_and, ofInt_u64 a (by omega), ofInt_u64 b (by omega), IntKind.wrap_i64]
  omega
theorem digit_bit (n i : Nat) : (n / 16777216 ^ (i / 24) % 16777216) / 2 ^ (i % 24) % 2 = n / 2 ^ i % 2 := by
  have h1 : (16777216 : Nat) ^ (i / 24) = 2 ^ (24 * (i / 24)) := by rw [Nat.pow_mul]
  have h2 : 2 ^ i = 2 ^ (24 * (i / 24)) * 2 ^ (i % 24) := by rw [← Nat.pow_add, Nat.div_add_mod]
  rw [h1, h2, ← Nat.div_div_eq_div_mul]
  generalize n / 2 ^ (24 * (i / 24)) = m
  have h3 : i % 24 < 24 := Nat.mod_lt _ (by decide)
  have e : (16777216 : Nat) = 2 ^ (i % 24) * (2 * 2 ^ (23 - i % 24)) := by
    rw [show 2 * 2 ^ (23 - i % 24) = 2 ^ (24 - i % 24) from by rw [← Nat.pow_succ']; congr 1; omega, ← Nat.pow_add]
    rw [show i % 24 + (24 - i % 24) = 24 from by omega]
  rw [e, Nat.mod_mul_right_div_self, Nat.mod_mul_right_mod]
theorem nbits_len (n i : Nat) (h : i < nbits n) : i / 24 < (digs 16777216 n).length := by
  rcases Nat.eq_zero_or_pos (digs 16777216 n).length with h0 | h0
  · have hn : n = 0 := (digs_nil_iff (by decide) n).1 (List.eq_nil_of_length_eq_zero h0)
    subst hn
    exact absurd h (by simp [nbits])
  · obtain ⟨k, hk⟩ : ∃ k, (digs 16777216 n).length = k + 1 := ⟨(digs 16777216 n).length - 1, by omega⟩
    have h1 := lt_pow_digs (B := 16777216) (by decide) n
    rw [show (16777216 : Nat) ^ (digs 16777216 n).length = 2 ^ (24 * (digs 16777216 n).length) from by rw [Nat.pow_mul]] at h1
    have hn : n ≠ 0 := by rintro rfl; simp [nbits] at h
    have h2 : n.log2 < 24 * (digs 16777216 n).length := (Nat.log2_lt hn).2 h1
    unfold nbits at h
    rw [if_neg hn] at h
    omega
set_option maxHeartbeats 1000000 in
set_option maxRecDepth 100000 in
theorem Rbit_any (A : Option Addr) (c n i : Nat) (w : World) (hx : RdAt w .i64 A (digs 16777216 n)) (hl : (digs 16777216 n).length ≤ 1000000000) (hi : i < nbits n) :
    Calls Tryd.prog 50 #[.slice A (digs 16777216 n).length c, .int .i64 i] w (RetN ((n / 2 ^ i % 2 : Nat) : Int) w) := by
  have hil := nbits_len n i hi
  have HV := Lib.hid (digit_bit n i)
  have hg := digs_gd (B := 16777216) (by decide) n (i / 24)
  rw [← hg] at HV
  obtain ⟨b, o, rfl, hc⟩ := hx (i / 24) hil
  have hgl := (digs_Dig (B := 16777216) (by decide) n).gd (by decide) (i / 24)
  generalize gd (digs 16777216 n) (i / 24) = g at *
  generalize (digs 16777216 n).length = m at *
  clear hx hg hi
  go_enter Tryd.func50, Tryd.ntmps50
  go_wp2_with fail
  go_ret
  refine ⟨ret_int ?_, Below.refl _ _⟩
  rw [← HV.out]
  have e1 : ((g : Int) / 2 ^ (i % 24)) = ((g / 2 ^ (i % 24) : Nat) : Int) := by rw [Int.natCast_ediv, Int.natCast_pow]; rfl
  have h2 : g / 2 ^ (i % 24) ≤ g := Nat.div_le_self _ _
  have e2 := i64_and_nat (g / 2 ^ (i % 24)) 1 (by omega) (by omega)
  rw [Nat.and_one_is_mod] at e2
  first | (rw [e1]; exact e2) | skip

set_option maxHeartbeats 1000000 in
set_option maxRecDepth 100000 in
theorem RPow_bad1 (n : Bool) (s : ByteArray) (k : Int) (w : World) (h : vld n s = false) : Calls Tryd.prog 25 #[.agg #[.bool n, .string s], .int .i64 k] w (RetIE 0 1 w) := by
  have H1 := fun W => Lib.hid (RValid_no n s W h)
  clear h
  go_enter Tryd.func25, Tryd.ntmps25
  go_wp2_with fail
  have t2 := (Ob.new (w) 23 #[.bool n, .string s]).alloc (.cells #[.bool false, .string ⟨#[]⟩] 23)
  have t4 := Ob.new ((w.alloc (.cells #[.bool n, .string s] 23))) 23 #[.bool false, .string ⟨#[]⟩]
  have bl := (((Below.refl w.heap.size w).alloc (Nat.le_refl _) (.cells #[.bool n, .string s] 23)).alloc (by simp only [World.size_alloc]; omega) (.cells #[.bool false, .string ⟨#[]⟩] 23))
  try simp only [World.size_alloc] at t2 t4
  generalize World.alloc (World.alloc w _) _ = W1 at t2 t4 bl ⊢
  refine ((H1 W1).out).mono ?_
  rintro e W2 ⟨rfl, hb⟩
  have t2 := t2.below hb t2.lt
  have t4 := t4.below hb t4.lt
  have bl := bl.trans (Below.mono hb bl.size)
  clear hb
  try simp only [ptr, Act.put, List.setIfInBounds_toArray, List.set_cons_zero, List.set_cons_succ]
  have fr4 := t4.free
  obtain ⟨z4_0, z4_1⟩ := t4.cells2
  go_wp2_with fail
  clear fr4 z4_0 z4_1
  have t2 := t2.far2 (show w.heap.size ≠ w.heap.size + 1 by omega) (.bool false) (.string ⟨#[]⟩)
  have t4 := t4.set2 (.bool false) (.string ⟨#[]⟩)
  have bl := (below_set (below_set bl (show w.heap.size ≤ w.heap.size + 1 by omega) 0 (.bool false)) (show w.heap.size ≤ w.heap.size + 1 by omega) 1 (.string ⟨#[]⟩))
  generalize World.setCell (World.setCell W2 _ _) _ _ = W3 at t2 t4 bl ⊢
  obtain ⟨r4_0, r4_1⟩ := t4.cells2
  exact bodyPost_ret (v := .tuple #[.agg #[.bool false, .string ⟨#[]⟩], .int .i64 1]) (by simp [results, Tryd.results25, go_sem, r4_0, r4_1]) rfl (⟨by rw [vI_zero], bl⟩)
set_option maxHeartbeats 1000000 in
set_option maxRecDepth 100000 in
theorem RPow_neg (n : Bool) (s : ByteArray) (k : Int) (w : World) (h : vld n s = true) (hk : k < 0) : Calls Tryd.prog 25 #[.agg #[.bool n, .string s], .int .i64 k] w (RetIE 0 2 w) := by
  have H1 : ∀ W, Hid (Calls Tryd.prog 33 #[.agg #[.bool n, .string s]] W (RetB true W)) := fun W => Lib.hid (by have := RValid_any n s W; rwa [h] at this)
  skip
  clear h
  go_enter Tryd.func25, Tryd.ntmps25
  go_wp2_with fail
  have t2 := (Ob.new (w) 23 #[.bool n, .string s]).alloc (.cells #[.bool false, .string ⟨#[]⟩] 23)
  have t4 := Ob.new ((w.alloc (.cells #[.bool n, .string s] 23))) 23 #[.bool false, .string ⟨#[]⟩]
  have bl := (((Below.refl w.heap.size w).alloc (Nat.le_refl _) (.cells #[.bool n, .string s] 23)).alloc (by simp only [World.size_alloc]; omega) (.cells #[.bool false, .string ⟨#[]⟩] 23))
  try simp only [World.size_alloc] at t2 t4
  generalize World.alloc (World.alloc w _) _ = W1 at t2 t4 bl ⊢
  refine ((H1 W1).out).mono ?_
  rintro e W2 ⟨rfl, hb⟩
  have t2 := t2.below hb t2.lt
  have t4 := t4.below hb t4.lt
  have bl := bl.trans (Below.mono hb bl.size)
  clear hb
  try simp only [ptr, Act.put, List.setIfInBounds_toArray, List.set_cons_zero, List.set_cons_succ]
  have fr4 := t4.free
  obtain ⟨z4_0, z4_1⟩ := t4.cells2
  go_wp2_with fail
  clear fr4 z4_0 z4_1
  have t2 := t2.far2 (show w.heap.size ≠ w.heap.size + 1 by omega) (.bool false) (.string ⟨#[]⟩)
  have t4 := t4.set2 (.bool false) (.string ⟨#[]⟩)
  have bl := (below_set (below_set bl (show w.heap.size ≤ w.heap.size + 1 by omega) 0 (.bool false)) (show w.heap.size ≤ w.heap.size + 1 by omega) 1 (.string ⟨#[]⟩))
  generalize World.setCell (World.setCell W2 _ _) _ _ = W3 at t2 t4 bl ⊢
  obtain ⟨r4_0, r4_1⟩ := t4.cells2
  exact bodyPost_ret (v := .tuple #[.agg #[.bool false, .string ⟨#[]⟩], .int .i64 2]) (by simp [results, Tryd.results25, go_sem, r4_0, r4_1]) rfl (⟨by rw [vI_zero], bl⟩)
set_option maxHeartbeats 1000000 in
set_option maxRecDepth 100000 in
theorem RPow_big (n : Bool) (s : ByteArray) (k : Int) (w : World) (h : vld n s = true) (hk : 100 < k) : Calls Tryd.prog 25 #[.agg #[.bool n, .string s], .int .i64 k] w (RetIE 0 2 w) := by
  have H1 : ∀ W, Hid (Calls Tryd.prog 33 #[.agg #[.bool n, .string s]] W (RetB true W)) := fun W => Lib.hid (by have := RValid_any n s W; rwa [h] at this)
  have hk0 : ¬ k < 0 := by omega
  clear h
  go_enter Tryd.func25, Tryd.ntmps25
  go_wp2_with fail
  have t2 := (Ob.new (w) 23 #[.bool n, .string s]).alloc (.cells #[.bool false, .string ⟨#[]⟩] 23)
  have t4 := Ob.new ((w.alloc (.cells #[.bool n, .string s] 23))) 23 #[.bool false, .string ⟨#[]⟩]
  have bl := (((Below.refl w.heap.size w).alloc (Nat.le_refl _) (.cells #[.bool n, .string s] 23)).alloc (by simp only [World.size_alloc]; omega) (.cells #[.bool false, .string ⟨#[]⟩] 23))
  try simp only [World.size_alloc] at t2 t4
  generalize World.alloc (World.alloc w _) _ = W1 at t2 t4 bl ⊢
  refine ((H1 W1).out).mono ?_
  rintro e W2 ⟨rfl, hb⟩
  have t2 := t2.below hb t2.lt
  have t4 := t4.below hb t4.lt
  have bl := bl.trans (Below.mono hb bl.size)
  clear hb
  try simp only [ptr, Act.put, List.setIfInBounds_toArray, List.set_cons_zero, List.set_cons_succ]
  have fr4 := t4.free
  obtain ⟨z4_0, z4_1⟩ := t4.cells2
  go_wp2_with fail
  clear fr4 z4_0 z4_1
  have t2 := t2.far2 (show w.heap.size ≠ w.heap.size + 1 by omega) (.bool false) (.string ⟨#[]⟩)
  have t4 := t4.set2 (.bool false) (.string ⟨#[]⟩)
  have bl := (below_set (below_set bl (show w.heap.size ≤ w.heap.size + 1 by omega) 0 (.bool false)) (show w.heap.size ≤ w.heap.size + 1 by omega) 1 (.string ⟨#[]⟩))
  generalize World.setCell (World.setCell W2 _ _) _ _ = W3 at t2 t4 bl ⊢
  obtain ⟨r4_0, r4_1⟩ := t4.cells2
  exact bodyPost_ret (v := .tuple #[.agg #[.bool false, .string ⟨#[]⟩], .int .i64 2]) (by simp [results, Tryd.results25, go_sem, r4_0, r4_1]) rfl (⟨by rw [vI_zero], bl⟩)
set_option maxHeartbeats 2000000 in
set_option maxRecDepth 100000 in
theorem RPow_any (x : Int) (k : Nat) (w : World) (hx : Bd 4000 x) (hk : k ≤ 100) : Calls Tryd.prog 25 #[vI x, .int .i64 k] w (RetIE (x ^ k) 0 w) := by
  have H1 := fun W => Lib.hid (RValid_yes x W)
  have H2 : ∀ W, Hid (Calls Tryd.prog 27 #[.int .i64 1] W (RetI 1 W)) := fun W => Lib.hid (ROf_any 1 W (by omega) (by omega))
  have hs := hx.size
  have hs' : ¬ (4000 : Int) < (mg x).size := by omega
  have hk0 : ¬ (k : Int) < 0 := by omega
  have hk1 : ¬ (100 : Int) < (k : Int) := by omega
  have HM : ∀ i W, i ≤ k → Hid (Calls Tryd.prog 47 #[vI (x ^ i), vI x] W (RetI (x ^ (i + 1)) W)) := fun i W hi => Lib.hid (by
    rw [Int.pow_succ]
    exact RMul_any (x ^ i) x W ((hx.pow (by omega) i 100 (by omega) (by omega)).mono (by omega)) (hx.mono (by omega)))
  clear hx hs
  go_enter Tryd.func25, Tryd.ntmps25
  go_wp2_with fail
  have t2 := (Ob.new (w) 23 #[.bool (sg x), .string (mg x)]).alloc (.cells #[.bool false, .string ⟨#[]⟩] 23)
  have t4 := Ob.new ((w.alloc (.cells #[.bool (sg x), .string (mg x)] 23))) 23 #[.bool false, .string ⟨#[]⟩]
  have bl := (((Below.refl w.heap.size w).alloc (Nat.le_refl _) (.cells #[.bool (sg x), .string (mg x)] 23)).alloc (by simp only [World.size_alloc]; omega) (.cells #[.bool false, .string ⟨#[]⟩] 23))
  try simp only [World.size_alloc] at t2 t4
  generalize World.alloc (World.alloc w _) _ = W1 at t2 t4 bl ⊢
  refine ((H1 W1).out).mono ?_
  rintro e W2 ⟨rfl, hb⟩
  have t2 := t2.below hb t2.lt
  have t4 := t4.below hb t4.lt
  have bl := bl.trans (Below.mono hb bl.size)
  clear hb
  obtain ⟨c0_0, c0_1⟩ := t2.cells2
  go_wp2_with fail
  clear c0_0 c0_1
  refine ((H2 W2).out).mono ?_
  rintro e W3 ⟨rfl, hb⟩
  have t2 := t2.below hb t2.lt
  have t4 := t4.below hb t4.lt
  have bl := bl.trans (Below.mono hb bl.size)
  clear hb
  go_wp2_with fail
  have lt4_2 := t2.lt
  have lt4_4 := t4.lt
  have lw4 := bl.size
  have t2 := (t2.alloc (.cells #[.bool (sg 1), .string (mg 1)] 23))
  have t4 := (t4.alloc (.cells #[.bool (sg 1), .string (mg 1)] 23))
  have t6 := Ob.new (W3) 23 #[.bool (sg 1), .string (mg 1)]
  have bl := (bl.alloc (by have := bl.size; (try simp only [World.size_alloc] at *); omega) (.cells #[.bool (sg 1), .string (mg 1)] 23))
  try simp only [World.size_alloc] at t2 t4 t6
  generalize hn4 : W3.heap.size = bk4 at t6 lt4_2 lt4_4 lw4 ⊢
  clear hn4
  generalize World.alloc W3 _ = W4 at t2 t4 t6 bl ⊢
  clear H1 H2
  go_loopw [7] (fun v7 wr => ∃ i : Nat, i ≤ k ∧ v7 = .int .i64 i ∧ Ob wr w.heap.size 23 #[.bool (sg x), .string (mg x)] ∧ Ob wr (w.heap.size + 1) 23 #[.bool false, .string ⟨#[]⟩] ∧ Ob wr bk4 23 #[.bool (sg (x ^ i)), .string (mg (x ^ i))] ∧ Below w.heap.size w wr) (fun v7 _ => k - (intOf v7).toNat)
  case atStart => exact ⟨0, by omega, rfl, t2, t4, by rw [Int.pow_zero]; exact t6, bl⟩
  case round =>
    clear t2 t4 t6 bl
    obtain ⟨i, hi, rfl, t2, t4, t6, bl⟩ := hrel
    by_cases hik : i < k
    · obtain ⟨x0, x1⟩ := t2.cells2
      obtain ⟨o0, o1⟩ := t6.cells2
      have HMi := HM i wr hi
      clear HM
      go_wp2_with fail
      refine HMi.out.mono ?_
      rintro e W5 ⟨rfl, hb⟩
      have t2 := t2.below hb t2.lt
      have t4 := t4.below hb t4.lt
      have t6 := t6.below hb t6.lt
      have bl := bl.trans (Below.mono hb bl.size)
      clear hb x0 x1 o0 o1 HMi
      have fr := t6.free
      obtain ⟨z0, z1⟩ := t6.cells2
      go_wp2_with fail
      go_roundw
      case rel => exact ⟨i + 1, by omega, by go_num, t2.far2 (by omega) _ _, t4.far2 (by omega) _ _, t6.set2 _ _, below_set (below_set bl (by omega) _ _) (by omega) _ _⟩
      case measure => simp [intOf]; omega
    · obtain rfl : i = k := by omega
      obtain ⟨o0, o1⟩ := t6.cells2
      obtain ⟨z0, z1⟩ := t4.cells2
      have fr := t4.free
      go_wp2_with fail
      obtain ⟨r0, r1⟩ := (t4.set2 (.bool (sg (x ^ i))) (.string (mg (x ^ i)))).cells2
      have bl := below_set (below_set bl (show w.heap.size ≤ w.heap.size + 1 by omega) 0 (.bool (sg (x ^ i)))) (show w.heap.size ≤ w.heap.size + 1 by omega) 1 (.string (mg (x ^ i)))
      exact bodyPost_ret (v := .tuple #[vI (x ^ i), .int .i64 0]) (by simp [results, Tryd.results25, go_sem, r0, r1]) rfl ⟨rfl, bl⟩
end Go.Proofs.YtboolbcckfldaaaDoor
