/- Integers: machine words as integers. -/
import Derived.Test.YtboolbcckfldaaaDoorWalkL
namespace Go.Proofs.YtboolbcckfldaaaDoor
open Go.RowKit
set_option linter.unusedVariables false
set_option linter.unusedSimpArgs false

theorem rd_two (w : World) (k : IntKind) (t : TypeId) (x y : Nat) : RdAt (w.alloc (.cells #[.int k (x : Int), .int k (y : Int)] t)) k (some ⟨w.heap.size, 0, none⟩) [x, y] := fun i hi => by
  have : i = 0 ∨ i = 1 := by simp at hi; omega
  rcases this with rfl | rfl
  · exact ⟨w.heap.size, 0, rfl, by simp [World.cell?_alloc_at, gd]⟩
  · exact ⟨w.heap.size, 0, rfl, by simp [World.cell?_alloc_at, gd]⟩

set_option maxHeartbeats 400000 in
set_option maxRecDepth 100000 in
theorem word_any (n : Int) (w : World) (h0 : 0 ≤ n) (h1 : n < 18446744073709551616) :
    Calls Tryd.prog 37 #[.int .u64 n] w (RetD .u32 4294967296 n.toNat w) := by
  obtain ⟨N, rfl⟩ := Int.eq_ofNat_of_zero_le h0
  have hr := rd_two w .u32 58 (N % 4294967296) (N / 4294967296)
  have e1 : ((N : Int) % 4294967296) = ((N % 4294967296 : Nat) : Int) := by omega
  have e2 : ((N : Int) / 4294967296) = ((N / 4294967296 : Nat) : Int) := by omega
  rw [← e1, ← e2] at hr
  have HR := Lib.hid hr
  clear e1 e2 hr
  rw [Int.toNat_natCast]
  have hdv : (N : Int) / 4294967296 < 4294967296 := by omega
  have hdv0 : 0 ≤ (N : Int) / 4294967296 := by omega
  go_enter Tryd.func37, Tryd.ntmps37
  go_wp2_with fail
  refine (trim_any _ 2 2 [N % 4294967296, N / 4294967296] _ rfl HR (by omega) (Nat.le_refl _)).mono ?_
  rintro e w' ⟨rfl, rfl⟩
  go_wp2
  go_ret
  have hd : Dig 4294967296 [N % 4294967296, N / 4294967296] := Dig.cons (Nat.mod_lt _ (by decide)) (Dig.cons (by omega) (Dig.nil _))
  have h := digs_val (by decide) hd
  have hv : val 4294967296 [N % 4294967296, N / 4294967296] = N := by simp only [val]; omega
  rw [hv] at h
  refine ⟨some ⟨w.heap.size, 0, none⟩, 2, ret_slice (by rw [h]), ?_, ?_, (Below.refl _ _).alloc (Nat.le_refl _) _⟩
  · rw [h]; exact trimL_length_le _
  · rw [h]; exact HR.out.trimL

theorem u64_wrap (x : Int) : IntKind.u64.wrap x = x % 18446744073709551616 := by simp [IntKind.wrap, IntKind.bits, IntKind.signed]

set_option maxHeartbeats 1000000 in
set_option maxRecDepth 100000 in
theorem Of_any (n : Int) (w : World) (h0 : -9223372036854775808 ≤ n) (h1 : n ≤ 9223372036854775807) :
    Calls Tryd.prog 12 #[.int .i64 n] w (RetI n w) := by
  by_cases hn : n < 0
  · have hW := Lib.hid (word_any (-n) (w.alloc (.cells #[.bool false, .string ⟨#[]⟩] 23)) (by omega) (by omega))
    have q1 : IntKind.u64.wrap n = n + 18446744073709551616 := by rw [u64_wrap]; omega
    have q2 : IntKind.u64.wrap (-(n + 18446744073709551616)) = -n := by rw [u64_wrap]; omega
    go_enter Tryd.func12, Tryd.ntmps12
    go_wp2_with fail
    clear q1 q2
    refine hW.out.mono ?_
    rintro e w1 ⟨A, c, rfl, hc, hrd, hb1⟩
    have hl : (digs 4294967296 (-n).toNat).length ≤ 2 := digs_length_le (by decide) (by omega)
    have HT1 := Lib.hid ((Two.new w 23 (.bool false) (.string ⟨#[]⟩)).below hb1 (by simp))
    have hz1 : w.heap.size + 1 ≤ w1.heap.size := by have := hb1.size; simp at this; omega
    have HB1 := Lib.hid (below_alloc1 hb1)
    have HR := Lib.hid hrd
    clear hrd hb1 hc hW
    go_wp2_with fail
    refine (with_any A c _ true w1 HR.out (by omega)).mono ?_
    rintro e w2 ⟨rfl, hb2⟩
    have HT2 := Lib.hid (HT1.out.below hb2 (by omega))
    have HB2 := Lib.hid (HB1.out.trans (hb2.mono (by omega)))
    have hz2 : w.heap.size + 1 ≤ w2.heap.size := by have := hb2.size; omega
    obtain ⟨hf0, hf1⟩ := HT2.out.free
    have hcc := HT2.out.cells
    obtain ⟨hc0, hc1⟩ := hcc
    have hval : Hid (sgnd true (-n).toNat = n) := Lib.hid (by simp only [sgnd, if_true]; omega)
    rw [hval.out]
    clear hb2
    go_wp2_with fail
    obtain ⟨r0, r1⟩ := HT2.out.read (.bool (sg n)) (.string (mg n))
    exact bodyPost_ret (v := vI n) (by simp [results, Tryd.results12, go_sem, r0, r1]) rfl ⟨rfl, (HB2.out.setCell (Nat.le_refl _) _).setCell (Nat.le_refl _) _⟩
  · have hW := Lib.hid (word_any n (w.alloc (.cells #[.bool false, .string ⟨#[]⟩] 23)) (by omega) (by omega))
    have q1 : IntKind.u64.wrap n = n := by rw [u64_wrap]; omega
    go_enter Tryd.func12, Tryd.ntmps12
    go_wp2_with fail
    clear q1
    refine hW.out.mono ?_
    rintro e w1 ⟨A, c, rfl, hc, hrd, hb1⟩
    have hl : (digs 4294967296 n.toNat).length ≤ 2 := digs_length_le (by decide) (by omega)
    have HT1 := Lib.hid ((Two.new w 23 (.bool false) (.string ⟨#[]⟩)).below hb1 (by simp))
    have hz1 : w.heap.size + 1 ≤ w1.heap.size := by have := hb1.size; simp at this; omega
    have HB1 := Lib.hid (below_alloc1 hb1)
    have HR := Lib.hid hrd
    clear hrd hb1 hc hW
    go_wp2_with fail
    refine (with_any A c _ false w1 HR.out (by omega)).mono ?_
    rintro e w2 ⟨rfl, hb2⟩
    have HT2 := Lib.hid (HT1.out.below hb2 (by omega))
    have HB2 := Lib.hid (HB1.out.trans (hb2.mono (by omega)))
    have hz2 : w.heap.size + 1 ≤ w2.heap.size := by have := hb2.size; omega
    obtain ⟨hf0, hf1⟩ := HT2.out.free
    have hcc := HT2.out.cells
    obtain ⟨hc0, hc1⟩ := hcc
    have hval : Hid (sgnd false n.toNat = n) := Lib.hid (by simp only [sgnd]; simp; omega)
    rw [hval.out]
    clear hb2
    go_wp2_with fail
    obtain ⟨r0, r1⟩ := HT2.out.read (.bool (sg n)) (.string (mg n))
    exact bodyPost_ret (v := vI n) (by simp [results, Tryd.results12, go_sem, r0, r1]) rfl ⟨rfl, (HB2.out.setCell (Nat.le_refl _) _).setCell (Nat.le_refl _) _⟩
end Go.Proofs.YtboolbcckfldaaaDoor
