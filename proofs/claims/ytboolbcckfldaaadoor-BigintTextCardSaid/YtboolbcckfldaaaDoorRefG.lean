import Derived.Test.YtboolbcckfldaaaDoorRefF
import Derived.Test.YtboolbcckfldaaaDoorWalkW
import Derived.Test.YtboolbcckfldaaaDoorOb
import Derived.Test.YtboolbcckfldaaaDoorReg
namespace Go.Proofs.YtboolbcckfldaaaDoor
open Go.RowKit
set_option linter.unusedVariables false
set_option linter.unusedSimpArgs false

theorem Rdigits_mg (z : Int) (w : World) (hz : Bd 1000000000 z) : Calls Tryd.prog 48 #[.string (mg z)] w (RetD .i64 16777216 z.natAbs w) := by
  have h := Rdigits_any (mg z) w (by have := hz.size; omega) (by rw [sv_mg, digs3_len]; unfold mg; rw [size_magB])
  rwa [sv_mg] at h
theorem RValid_yes (z : Int) (w : World) : Calls Tryd.prog 33 #[vI z] w (RetB true w) := by
  have := RValid_any (sg z) (mg z) w
  rwa [vld_sg] at this
theorem RValid_no (n : Bool) (s : ByteArray) (w : World) (h : vld n s = false) : Calls Tryd.prog 33 #[.agg #[.bool n, .string s]] w (RetB false w) := by
  have := RValid_any n s w
  rwa [h] at this

set_option maxHeartbeats 2000000 in
set_option maxRecDepth 100000 in
theorem RInt64_neg (s : ByteArray) (w : World) (h : vld true s = true) (hl : s.size ≤ 8) (hm : 0 < sv s ∧ sv s ≤ 9223372036854775808) : Calls Tryd.prog 24 #[.agg #[.bool true, .string s]] w (RetNB (-(sv s : Int)) true w) := by
  have h0 := Ob.new w 23 #[.bool true, .string s]
  have b0 : Below w.heap.size w (w.alloc (.cells #[.bool true, .string s] 23)) := (Below.refl _ _).alloc (Nat.le_refl _) _
  have hl' : ¬ (8 : Int) < s.size := by omega
  have HM := Lib.hid hm
  have HV := fun W => Lib.hid (RValid_any true s W)
  rw [h] at HV
  clear hm h
  go_enter Tryd.func24, Tryd.ntmps24
  go_wp2_with fail
  generalize World.alloc w _ = W0 at h0 b0 ⊢
  refine (HV W0).out.mono ?_
  rintro e W1 ⟨rfl, hb⟩
  have h1 := h0.below hb h0.lt
  have b1 := b0.trans (hb.mono b0.size)
  clear hb h0 b0 HV
  obtain ⟨x0, x1⟩ := h1.cells2
  go_wp2_with fail
  go_loop [4, 5] (fun v4 v5 => ∃ k : Nat, k ≤ s.size ∧ v5 = .int .i64 k ∧ v4 = .int .u64 ((be (s.data.toList.take k) : Nat) : Int)) (fun _ v5 => s.size - (intOf v5).toNat)
  case atStart => exact ⟨0, Nat.zero_le _, rfl, rfl⟩
  case round =>
    obtain ⟨k, hk, rfl, rfl⟩ := hrel
    rcases Nat.lt_or_ge k s.size with hks | hks
    · have e1 := be_take s k hks
      have e2 := be_take_lt s k
      have e3 := pow256_7 (k := k) (by omega)
      have e4 := s[k].toNat_lt
      generalize be (s.data.toList.take k) = V at *
      have e5 : V < 72057594037927936 := by omega
      have E1 := Lib.hid e1
      clear e1 e2 e3
      have e6 : IntKind.u64.wrap ((V : Int) * 256) = (V : Int) * 256 := by rw [u64_wrap]; omega
      go_wp2_with fail
      go_round
      case rel => exact ⟨k + 1, by omega, by go_num, by rw [E1.out]; exact congrArg (Value.int .u64) (by omega)⟩
      case measure => simp [intOf]; omega
    · have e1 := be_take_all s k hks
      rw [e1]
      have hm := HM.out
      clear e1
      generalize sv s = m at *
      have hmI : 1 ≤ (m : Int) ∧ (m : Int) ≤ 9223372036854775808 := by omega
      clear hm
      go_wp2_with fail
      go_ret2
      exact ⟨ret_nb (by omega), b1⟩
set_option maxHeartbeats 2000000 in
set_option maxRecDepth 100000 in
theorem RInt64_pos (s : ByteArray) (w : World) (h : vld false s = true) (hl : s.size ≤ 8) (hm : sv s < 9223372036854775808) : Calls Tryd.prog 24 #[.agg #[.bool false, .string s]] w (RetNB ((sv s : Int)) true w) := by
  have h0 := Ob.new w 23 #[.bool false, .string s]
  have b0 : Below w.heap.size w (w.alloc (.cells #[.bool false, .string s] 23)) := (Below.refl _ _).alloc (Nat.le_refl _) _
  have hl' : ¬ (8 : Int) < s.size := by omega
  have HM := Lib.hid hm
  have HV := fun W => Lib.hid (RValid_any false s W)
  rw [h] at HV
  clear hm h
  go_enter Tryd.func24, Tryd.ntmps24
  go_wp2_with fail
  generalize World.alloc w _ = W0 at h0 b0 ⊢
  refine (HV W0).out.mono ?_
  rintro e W1 ⟨rfl, hb⟩
  have h1 := h0.below hb h0.lt
  have b1 := b0.trans (hb.mono b0.size)
  clear hb h0 b0 HV
  obtain ⟨x0, x1⟩ := h1.cells2
  go_wp2_with fail
  go_loop [4, 5] (fun v4 v5 => ∃ k : Nat, k ≤ s.size ∧ v5 = .int .i64 k ∧ v4 = .int .u64 ((be (s.data.toList.take k) : Nat) : Int)) (fun _ v5 => s.size - (intOf v5).toNat)
  case atStart => exact ⟨0, Nat.zero_le _, rfl, rfl⟩
  case round =>
    obtain ⟨k, hk, rfl, rfl⟩ := hrel
    rcases Nat.lt_or_ge k s.size with hks | hks
    · have e1 := be_take s k hks
      have e2 := be_take_lt s k
      have e3 := pow256_7 (k := k) (by omega)
      have e4 := s[k].toNat_lt
      generalize be (s.data.toList.take k) = V at *
      have e5 : V < 72057594037927936 := by omega
      have E1 := Lib.hid e1
      clear e1 e2 e3
      have e6 : IntKind.u64.wrap ((V : Int) * 256) = (V : Int) * 256 := by rw [u64_wrap]; omega
      go_wp2_with fail
      go_round
      case rel => exact ⟨k + 1, by omega, by go_num, by rw [E1.out]; exact congrArg (Value.int .u64) (by omega)⟩
      case measure => simp [intOf]; omega
    · have e1 := be_take_all s k hks
      rw [e1]
      have hm := HM.out
      clear e1
      generalize sv s = m at *
      have hmI : 0 ≤ (m : Int) ∧ (m : Int) < 9223372036854775808 := by omega
      clear hm
      go_wp2_with fail
      go_ret2
      exact ⟨ret_nb (by first | rfl | (unfold wrap64; omega)), b1⟩

theorem RInt64_small (z : Int) (w : World) (h : (mg z).size ≤ 7) : Calls Tryd.prog 24 #[vI z] w (RetNB z true w) := by
  have hv := vld_sg z
  have hz := sv_mg z
  have hb : z.natAbs < 72057594037927936 := by
    have := lt_pow_digs (B := 256) (by decide) z.natAbs
    unfold mg at h
    rw [size_magB] at h
    have h2 := pow256_7 h
    omega
  by_cases hn : z < 0
  · have e : sg z = true := by unfold sg; simpa using hn
    rw [e] at hv
    simp only [vI, e]
    have h1 := RInt64_neg (mg z) w hv (by omega) (by omega)
    rw [hz] at h1
    rwa [show -((z.natAbs : Nat) : Int) = z from by omega] at h1
  · have e : sg z = false := by unfold sg; simpa using hn
    rw [e] at hv
    simp only [vI, e]
    have h1 := RInt64_pos (mg z) w hv (by omega) (by omega)
    rw [hz] at h1
    rwa [show ((z.natAbs : Nat) : Int) = z from by omega] at h1
theorem small_bd {z : Int} (h : (mg z).size ≤ 7) : -72057594037927936 < z ∧ z < 72057594037927936 := by
  have := lt_pow_digs (B := 256) (by decide) z.natAbs
  unfold mg at h
  rw [size_magB] at h
  have h2 := pow256_7 h
  omega

set_option maxHeartbeats 1000000 in
set_option maxRecDepth 100000 in
theorem Rsmall_yes (z : Int) (w : World) (h : (mg z).size ≤ 7) : Calls Tryd.prog 71 #[vI z] w (RetNB z true w) := by
  have H1 := fun W => Lib.hid (RInt64_small z W h)
  have h' : ¬ (7 : Int) < (mg z).size := by omega
  go_enter Tryd.func71, Tryd.ntmps71
  go_wp2_with fail
  have t1 := Ob.new (w) 23 #[.bool (sg z), .string (mg z)]
  have bl := ((Below.refl w.heap.size w).alloc (Nat.le_refl _) (.cells #[.bool (sg z), .string (mg z)] 23))
  try simp only [World.size_alloc] at t1
  generalize World.alloc w _ = W1 at t1 bl ⊢
  refine ((H1 W1).out).mono ?_
  rintro e W2 ⟨rfl, hb⟩
  have t1 := t1.below hb t1.lt
  have bl := bl.trans (Below.mono hb bl.size)
  clear hb
  go_wp2_with fail
  go_ret2
  exact ⟨rfl, bl⟩
set_option maxHeartbeats 1000000 in
set_option maxRecDepth 100000 in
theorem Rsmall_no (z : Int) (w : World) (h : 7 < (mg z).size) : Calls Tryd.prog 71 #[vI z] w (RetNB 0 false w) := by
  have h' : (7 : Int) < (mg z).size := by omega
  go_enter Tryd.func71, Tryd.ntmps71
  go_wp2_with fail
  have t1 := Ob.new (w) 23 #[.bool (sg z), .string (mg z)]
  have bl := ((Below.refl w.heap.size w).alloc (Nat.le_refl _) (.cells #[.bool (sg z), .string (mg z)] 23))
  try simp only [World.size_alloc] at t1
  generalize World.alloc w _ = W1 at t1 bl ⊢
  go_ret2
  exact ⟨rfl, bl⟩

theorem RetD.raw {k : IntKind} {M n : Nat} {w : World} {e : Ending} {w' : World} (h : RetD k M n w e w') : ∃ A c, e = .returned (.slice A (digs M n).length c) ∧ (digs M n).length ≤ c ∧ RdAt w' k A (digs M n) ∧ Below w.heap.size w w' := h
set_option maxHeartbeats 1000000 in
set_option maxRecDepth 100000 in
theorem RMul_bad2 (n m : Bool) (s t : ByteArray) (w : World) (h : vld n s = true) (h' : vld m t = false) : Calls Tryd.prog 47 #[.agg #[.bool n, .string s], .agg #[.bool m, .string t]] w (RetI 0 w) := by
  have H1 : ∀ W, Hid (Calls Tryd.prog 33 #[.agg #[.bool n, .string s]] W (RetB true W)) := fun W => Lib.hid (by have := RValid_any n s W; rwa [h] at this)
  have H2 := fun W => Lib.hid (RValid_no m t W h')
  clear h h'
  go_enter Tryd.func47, Tryd.ntmps47
  go_wp2_with fail
  have t2 := ((Ob.new (w) 23 #[.bool n, .string s]).alloc (.cells #[.bool m, .string t] 23)).alloc (.cells #[.bool false, .string ⟨#[]⟩] 23)
  have t3 := (Ob.new ((w.alloc (.cells #[.bool n, .string s] 23))) 23 #[.bool m, .string t]).alloc (.cells #[.bool false, .string ⟨#[]⟩] 23)
  have t4 := Ob.new (((w.alloc (.cells #[.bool n, .string s] 23)).alloc (.cells #[.bool m, .string t] 23))) 23 #[.bool false, .string ⟨#[]⟩]
  have bl := ((((Below.refl w.heap.size w).alloc (Nat.le_refl _) (.cells #[.bool n, .string s] 23)).alloc (by simp only [World.size_alloc]; omega) (.cells #[.bool m, .string t] 23)).alloc (by simp only [World.size_alloc]; omega) (.cells #[.bool false, .string ⟨#[]⟩] 23))
  try simp only [World.size_alloc] at t2 t3 t4
  generalize World.alloc (World.alloc (World.alloc w _) _) _ = W1 at t2 t3 t4 bl ⊢
  refine ((H1 W1).out).mono ?_
  rintro e W2 ⟨rfl, hb⟩
  have t2 := t2.below hb t2.lt
  have t3 := t3.below hb t3.lt
  have t4 := t4.below hb t4.lt
  have bl := bl.trans (Below.mono hb bl.size)
  clear hb
  obtain ⟨c0_0, c0_1⟩ := t3.cells2
  go_wp2_with fail
  clear c0_0 c0_1
  refine ((H2 W2).out).mono ?_
  rintro e W3 ⟨rfl, hb⟩
  have t2 := t2.below hb t2.lt
  have t3 := t3.below hb t3.lt
  have t4 := t4.below hb t4.lt
  have bl := bl.trans (Below.mono hb bl.size)
  clear hb
  try simp only [ptr, Act.put, List.setIfInBounds_toArray, List.set_cons_zero, List.set_cons_succ]
  have fr4 := t4.free
  obtain ⟨z4_0, z4_1⟩ := t4.cells2
  go_wp2_with fail
  clear fr4 z4_0 z4_1
  have t2 := t2.far2 (show w.heap.size ≠ w.heap.size + 1 + 1 by omega) (.bool false) (.string ⟨#[]⟩)
  have t3 := t3.far2 (show w.heap.size + 1 ≠ w.heap.size + 1 + 1 by omega) (.bool false) (.string ⟨#[]⟩)
  have t4 := t4.set2 (.bool false) (.string ⟨#[]⟩)
  have bl := (below_set (below_set bl (show w.heap.size ≤ w.heap.size + 1 + 1 by omega) 0 (.bool false)) (show w.heap.size ≤ w.heap.size + 1 + 1 by omega) 1 (.string ⟨#[]⟩))
  generalize World.setCell (World.setCell W3 _ _) _ _ = W4 at t2 t3 t4 bl ⊢
  obtain ⟨r4_0, r4_1⟩ := t4.cells2
  exact bodyPost_ret (v := .agg #[.bool false, .string ⟨#[]⟩]) (by simp [results, Tryd.results47, go_sem, r4_0, r4_1]) rfl (RetI.zero bl)

theorem Rsigned_d (A : Option Addr) (c n : Nat) (b : Bool) (w : World) (hx : RdAt w .i64 A (digs 16777216 n)) (hl : (digs 16777216 n).length ≤ 1000000000) :
    Calls Tryd.prog 54 #[.bool b, .slice A (digs 16777216 n).length c] w (RetI (sgnd b n) w) :=
  Rsigned_lists A c n _ b w hx hl (digs_Dig (by decide) n) (val_digs (by decide) n).symm
theorem Rdigs_add {K : Nat} (x y : Int) (hx : Bd K x) (hy : Bd K y) (hK : K + 1 ≤ 1000000000 := by omega) : (digs 16777216 (x.natAbs + y.natAbs)).length ≤ 1000000000 := by
  have h1 : Bd K (x.natAbs : Int) := hx.le (by simp)
  have h2 : Bd K (y.natAbs : Int) := hy.le (by simp)
  have := (h1.add h2).digs24
  rw [← Int.natCast_add, Int.natAbs_natCast] at this
  omega

end Go.Proofs.YtboolbcckfldaaaDoor
