/- Long division of the program's natural numbers. -/
import Derived.Test.YtboolbcckfldaaaDoorWalkI
import Derived.Test.YtboolbcckfldaaaDoorNum
import Derived.Test.YtboolbcckfldaaaDoorShelf
namespace Go.Proofs.YtboolbcckfldaaaDoor
open Go.RowKit
set_option linter.unusedVariables false
set_option linter.unusedSimpArgs false

theorem bitLenAux_spec : ∀ (f x : Nat), x < 2 ^ f → x ≠ 0 → 1 ≤ Lib.bitLenAux f x ∧ Lib.bitLenAux f x ≤ f ∧ 2 ^ (Lib.bitLenAux f x - 1) ≤ x ∧ x < 2 ^ Lib.bitLenAux f x
  | 0, x, h, h0 => by simp at h; omega
  | f + 1, x, h, h0 => by
    simp only [Lib.bitLenAux, if_neg h0]
    by_cases h1 : x / 2 = 0
    · have : x = 1 := by omega
      subst this
      have : Lib.bitLenAux f (1 / 2) = 0 := by cases f <;> simp [Lib.bitLenAux]
      rw [this]; simp
    · obtain ⟨a, b, c, d⟩ := bitLenAux_spec f (x / 2) (by rw [Nat.pow_succ] at h; omega) h1
      obtain ⟨m, hm⟩ : ∃ m, Lib.bitLenAux f (x / 2) = m + 1 := ⟨_, (Nat.sub_add_cancel a).symm⟩
      rw [hm] at b c d ⊢
      simp only [Nat.add_sub_cancel] at c
      refine ⟨by omega, by omega, ?_, ?_⟩
      · rw [show 1 + (m + 1) - 1 = m + 1 from by omega, Nat.pow_succ]; omega
      · rw [show 1 + (m + 1) = m + 1 + 1 from by omega, Nat.pow_succ]; omega
theorem bitLen32 {x : Nat} (h : x < 4294967296) (h0 : x ≠ 0) : 1 ≤ Lib.bitLen x ∧ Lib.bitLen x ≤ 32 ∧ 2147483648 ≤ x * 2 ^ (32 - Lib.bitLen x) ∧ (x + 1) * 2 ^ (32 - Lib.bitLen x) ≤ 4294967296 := by
  obtain ⟨a, _, c, d⟩ := bitLenAux_spec 64 x (by omega) h0
  have e : Lib.bitLen x = Lib.bitLenAux 64 x := rfl
  rw [← e] at a c d
  have b : Lib.bitLen x ≤ 32 := by
    rcases Nat.lt_or_ge 32 (Lib.bitLen x) with h1 | h1
    · have : 2 ^ 32 ≤ 2 ^ (Lib.bitLen x - 1) := Nat.pow_le_pow_right (by decide) (by omega)
      omega
    · exact h1
  refine ⟨a, b, ?_, ?_⟩
  · have h1 : 2 ^ (Lib.bitLen x - 1) * 2 ^ (32 - Lib.bitLen x) ≤ x * 2 ^ (32 - Lib.bitLen x) := Nat.mul_le_mul_right _ c
    rw [← Nat.pow_add, show Lib.bitLen x - 1 + (32 - Lib.bitLen x) = 31 from by omega] at h1
    exact h1
  · have h1 : (x + 1) * 2 ^ (32 - Lib.bitLen x) ≤ 2 ^ Lib.bitLen x * 2 ^ (32 - Lib.bitLen x) := Nat.mul_le_mul_right _ d
    rw [← Nat.pow_add, show Lib.bitLen x + (32 - Lib.bitLen x) = 32 from by omega] at h1
    exact h1

/-- the call returns quotient and remainder -/
def RetDiv (q r : Nat) (w : World) (e : Ending) (w' : World) : Prop :=
  ∃ A c B d, e = .returned (.tuple #[.slice A (digs 4294967296 q).length c, .slice B (digs 4294967296 r).length d]) ∧ (digs 4294967296 q).length ≤ c ∧ (digs 4294967296 r).length ≤ d ∧ RdAt w' .u32 A (digs 4294967296 q) ∧ RdAt w' .u32 B (digs 4294967296 r) ∧ Below w.heap.size w w'

theorem ret_slices {A B : Option Addr} {n n' c m m' d : Nat} (h : n = n') (h' : m = m') : Ending.returned (.tuple #[.slice A n c, .slice B m d]) = .returned (.tuple #[.slice A n' c, .slice B m' d]) := by rw [h, h']

set_option maxHeartbeats 1000000 in
set_option maxRecDepth 100000 in
/-- the number is less than the divisor -/
theorem divide_less (A B : Option Addr) (c d x y : Nat) (w : World) (hx : RdAt w .u32 A (digs 4294967296 x)) (hy : RdAt w .u32 B (digs 4294967296 y)) (hl : (digs 4294967296 x).length ≤ 1000000000) (hm : (digs 4294967296 y).length ≤ 1000000000) (hc : (digs 4294967296 x).length ≤ c) (hlt : x < y) :
    Calls Tryd.prog 44 #[.slice A (digs 4294967296 x).length c, .slice B (digs 4294967296 y).length d] w (RetDiv (x / y) (x % y) w) := by
  have HC := Lib.hid (compare_any A B c d x y w hx hy hl hm)
  have HX := Lib.hid hx
  clear hx hy
  go_enter Tryd.func44, Tryd.ntmps44
  go_wp2_with fail
  refine HC.out.mono ?_
  rintro e w' ⟨r, rfl, h1, h2, n, rfl⟩
  have hr : r < 0 := h1.2 hlt
  clear h1 h2
  go_wp2
  go_ret2
  have e1 : digs 4294967296 (x / y) = [] := by rw [Nat.div_eq_of_lt hlt]; exact digs_zero _
  have e2 : x % y = x := Nat.mod_eq_of_lt hlt
  refine ⟨none, 0, A, c, ret_slices (by rw [e1]; rfl) (by rw [e2]), by rw [e1]; exact Nat.le_refl _, by rw [e2]; exact hc, by rw [e1]; exact RdAt.nil _ _ _, by rw [e2]; exact HX.out.below (below_drewN (Below.refl _ _) _), below_drewN (Below.refl _ _) _⟩

theorem digs_one {M x : Nat} (hM : 2 ≤ M) (h0 : x ≠ 0) (h : x < M) : digs M x = [x] := by
  rw [digs_step hM h0, Nat.mod_eq_of_lt h, Nat.div_eq_of_lt h, digs_zero]

theorem rd_one (w : World) (k : IntKind) (t : TypeId) (x : Nat) : RdAt (w.alloc (.cells #[.int k (x : Int)] t)) k (some ⟨w.heap.size, 0, none⟩) [x] := fun i hi => by
  have : i = 0 := by simpa using hi
  subst this
  exact ⟨w.heap.size, 0, rfl, by rw [Nat.zero_add]; simp [World.cell?_alloc_at, gd]⟩

set_option maxHeartbeats 1000000 in
set_option maxRecDepth 100000 in
/-- the divisor has one digit -/
theorem divide_one (A B : Option Addr) (c d x y : Nat) (w : World) (hx : RdAt w .u32 A (digs 4294967296 x)) (hy : RdAt w .u32 B (digs 4294967296 y)) (hl : (digs 4294967296 x).length ≤ 1000000000) (hm : (digs 4294967296 y).length = 1) (hge : y ≤ x) :
    Calls Tryd.prog 44 #[.slice A (digs 4294967296 x).length c, .slice B (digs 4294967296 y).length d] w (RetDiv (x / y) (x % y) w) := by
  have HC := Lib.hid (compare_any A B c d x y w hx hy hl (by omega))
  have hy0 : y ≠ 0 := by rintro rfl; rw [digs_zero] at hm; simp at hm
  have hyM : y < 4294967296 := by have := lt_pow_digs (B := 4294967296) (by decide) y; rw [hm] at this; omega
  have hyd := digs_one (M := 4294967296) (by decide) hy0 hyM
  rw [hyd] at HC hy ⊢
  obtain ⟨bb, oo, rfl, hcb⟩ := hy 0 (by simp)
  rw [show gd [y] 0 = y from rfl, Nat.add_zero] at hcb
  have HX := Lib.hid hx
  have HE := Lib.hid hyd
  clear hx hy hyd hm
  go_enter Tryd.func44, Tryd.ntmps44
  go_wp2_with fail
  refine HC.out.mono ?_
  rintro e w' ⟨r, rfl, h1, h2, n, rfl⟩
  have hr : ¬ r < 0 := fun h => by have := h1.1 h; omega
  have hr' : 0 ≤ r := by omega
  clear h1 h2 hr
  go_wp2_with fail
  refine (small_any A c x y (w.drewN n) (HX.out.below (below_drewN (Below.refl _ _) _)) hl (by omega) (by omega)).mono ?_
  rintro e w1 ⟨A1, c1, rfl, hc1, hrd, hbl⟩
  have HR := Lib.hid hrd
  have HRB := Lib.hid (rd_one w1 .u32 58 (x % y))
  have hmm : ((x : Int) % (y : Int)) = ((x % y : Nat) : Int) := (Int.natCast_emod x y).symm
  rw [hmm]
  generalize hrr : x % y = rr at *
  have HRR := Lib.hid hrr
  rw [Int.toNat_natCast] at hc1 HR
  generalize hqq : x / y = qq at *
  rw [show ((y : Int)).toNat = y from Int.toNat_natCast y, hqq]
  clear hrd hrr hmm hqq
  go_wp2_with (go_at_call 59; refine (trim_any _ 1 1 [rr] _ rfl (Lib.hid HRB.out) (by omega) (by omega)).mono ?_; rintro e w' ⟨rfl, rfl⟩)
  go_ret2
  have hrd : trimL [rr] = digs 4294967296 rr := by
    have h1 : rr < 4294967296 := by rw [← HRR.out]; have := Nat.mod_lt x (show 0 < y by omega); omega
    have := digs_val (B := 4294967296) (by decide) (xs := [rr]) (Dig.cons h1 (Dig.nil _))
    simp only [val, Nat.mul_zero, Nat.add_zero] at this
    exact this.symm
  have hal := ((Below.refl w1.heap.size w1).alloc (Nat.le_refl _) (.cells #[Value.int .u32 (rr : Int)] 58))
  refine ⟨A1, c1, some ⟨w1.heap.size, 0, none⟩, 1, ret_slices rfl (by rw [hrd]), hc1, ?_, HR.out.below hal, ?_, ?_⟩
  · rw [← hrd]; exact trimL_length_le [rr]
  · rw [← hrd]; exact HRB.out.trimL
  · exact ((below_drewN (Below.refl _ _) n).trans hbl).alloc hbl.size _

end Go.Proofs.YtboolbcckfldaaaDoor
