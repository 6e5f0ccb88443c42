import Derived.Test.YtboolbcckfldaaaDoorWalkR
namespace Go.Proofs.YtboolbcckfldaaaDoor
open Go.RowKit
set_option linter.unusedVariables false
set_option linter.unusedSimpArgs false

/-- an integer and an error number -/
def RetIE (z : Int) (n : Int) (w : World) (e : Ending) (w' : World) : Prop := e = .returned (.tuple #[vI z, .int .i64 n]) ∧ Below w.heap.size w w'

theorem Bd.pow {k : Nat} {x : Int} (h : Bd k x) (hk : 1 ≤ k) (i n : Nat) (hi : i ≤ n) (hn : 1 ≤ n) : Bd (k * n) (x ^ i) := by
  unfold Bd at *
  rw [Int.natAbs_pow, Nat.pow_mul]
  have h1 : x.natAbs ^ i ≤ (256 ^ k) ^ i := Nat.pow_le_pow_left (by omega) i
  have h2 : (256 ^ k : Nat) ^ i ≤ (256 ^ k) ^ n := Nat.pow_le_pow_right (by have := Nat.pow_pos (n := k) (show 0 < 256 by decide); omega) hi
  rcases Nat.eq_zero_or_pos i with h0 | h0
  · subst h0
    rw [Nat.pow_zero, ← Nat.pow_mul]
    exact Nat.one_lt_pow (by have := Nat.mul_pos (show 0 < k by omega) (show 0 < n by omega); omega) (by decide)
  · have h3 : x.natAbs ^ i < (256 ^ k) ^ i := Nat.pow_lt_pow_left h (by omega)
    omega

structure BoxP (w W : World) (t : TypeId) (b : Nat) (x o : Int) : Prop where
  a : Two W w.heap.size t (.bool (sg x)) (.string (mg x))
  z : Two W (w.heap.size + 1) t (.bool false) (.string ⟨#[]⟩)
  u : Two W b t (.bool (sg o)) (.string (mg o))
  n : w.heap.size + 2 ≤ b
  b : Below w.heap.size w W
theorem BoxP.below {w W W' : World} {t : TypeId} {b : Nat} {x o : Int} (h : BoxP w W t b x o) (hb : Below W.heap.size W W') : BoxP w W' t b x o :=
  ⟨h.a.below hb h.a.lt, h.z.below hb h.z.lt, h.u.below hb h.u.lt, h.n, h.b.trans (hb.mono h.b.size)⟩
theorem BoxP.setu {w W : World} {t : TypeId} {b : Nat} {x o : Int} (h : BoxP w W t b x o) (o' : Int) : BoxP w ((W.setCell ⟨b, 0, none⟩ (.bool (sg o'))).setCell ⟨b, 1, none⟩ (.string (mg o'))) t b x o' :=
  have := h.n
  ⟨(h.a.far (by simp; omega) _).far (by simp; omega) _, (h.z.far (by simp; omega) _).far (by simp; omega) _, h.u.set _ _, h.n, (h.b.setCell (by simp; omega) _).setCell (by simp; omega) _⟩
theorem BoxP.seta {w W : World} {t : TypeId} {b : Nat} {x o : Int} (h : BoxP w W t b x o) (x' : Int) : BoxP w ((W.setCell ⟨w.heap.size, 0, none⟩ (.bool (sg x'))).setCell ⟨w.heap.size, 1, none⟩ (.string (mg x'))) t b x' o :=
  have := h.n
  ⟨h.a.set _ _, (h.z.far (by simp) _).far (by simp) _, (h.u.far (by simp; omega) _).far (by simp; omega) _, h.n, (h.b.setCell (by simp) _).setCell (by simp) _⟩
theorem BoxP.new {w W : World} {t : TypeId} {x o : Int} (h : Box2 w W t (.bool (sg x)) (.string (mg x))) : BoxP w (W.alloc (.cells #[.bool (sg o), .string (mg o)] t)) t W.heap.size x o :=
  ⟨h.x.alloc _, h.z.alloc _, Two.new _ _ _ _, h.s, h.b.alloc (by have := h.s; omega) _⟩

def PowInv (x a o : Int) (k k0 : Nat) : Prop := k ≤ k0 ∧ ∃ i j, o = x ^ i ∧ a = x ^ j ∧ i + j * k = k0 ∧ (1 ≤ k → j ≤ k0) ∧ (j ≤ 100)

theorem and1_small : ∀ m : Nat, m < 101 → (bits BinOp.and IntKind.i64 (m : Int) 1 == 1) = decide (m % 2 = 1) := by decide +kernel

theorem pow_even {x : Int} {i j m k : Nat} (hj : j ≤ 100) (hm : 2 ≤ m) (h2 : m % 2 = 0) (h : i + j * m = k) (hmk : m ≤ k) : k ≤ 100 → PowInv x (x ^ j * x ^ j) (x ^ i) (m / 2) k := by
  intro hk
  have h1 : j * 2 ≤ j * m := Nat.mul_le_mul_left j hm
  have h3 : (j + j) * (m / 2) = j * m := by
    have e : m = 2 * (m / 2) := by omega
    conv => rhs; rw [e]
    rw [← Nat.mul_assoc]; congr 1; omega
  exact ⟨by omega, i, j + j, rfl, by rw [Int.pow_add], by rw [h3]; exact h, fun _ => by omega, by omega⟩
theorem pow_odd {x : Int} {i j m k : Nat} (hj : j ≤ 100) (hm : 2 ≤ m) (h2 : m % 2 = 1) (h : i + j * m = k) (hmk : m ≤ k) : k ≤ 100 → PowInv x (x ^ j * x ^ j) (x ^ i * x ^ j) (m / 2) k := by
  intro hk
  have h1 : j * 2 ≤ j * m := Nat.mul_le_mul_left j hm
  have h3 : j + (j + j) * (m / 2) = j * m := by
    have e : m = 2 * (m / 2) + 1 := by omega
    conv => rhs; rw [e]
    rw [Nat.mul_add, ← Nat.mul_assoc, Nat.mul_one]
    have : j * 2 = j + j := by omega
    rw [this]; omega
  exact ⟨by omega, i + j, j + j, by rw [Int.pow_add], by rw [Int.pow_add], by omega, fun _ => by omega, by omega⟩

set_option maxHeartbeats 4000000 in
set_option maxRecDepth 100000 in
theorem Pow_any (x : Int) (k : Nat) (w : World) (hx : Bd 4000 x) (hk : k ≤ 100) : Calls Tryd.prog 17 #[vI x, .int .i64 k] w (RetIE (x ^ k) 0 w) := by
  have h0 := Box2.new w 23 (.bool (sg x)) (.string (mg x))
  have hl : (mg x).size ≤ 4000 := hx.size
  have HX := Lib.hid hx
  clear hx
  go_enter Tryd.func17, Tryd.ntmps17
  go_wp2_with fail
  obtain ⟨W0, hW0⟩ : ∃ W0, W0 = ((w.alloc (.cells #[.bool (sg x), .string (mg x)] 23)).alloc (.cells #[.bool false, .string ⟨#[]⟩] 23)) := ⟨_, rfl⟩
  rw [← hW0] at h0 ⊢
  clear hW0
  refine (Valid_yes x W0).mono ?_
  rintro e W1 ⟨rfl, hb⟩
  have h1 := h0.below hb
  clear hb h0
  obtain ⟨x0, x1⟩ := h1.x.cells
  go_wp2_with fail
  refine (Of_any 1 W1 (by omega) (by omega)).mono ?_
  rintro e W2 ⟨rfl, hb⟩
  have h2 := h1.below hb
  clear hb h1 x0 x1
  go_wp2_with fail
  have h3 := BoxP.new (o := 1) h2
  obtain ⟨b, hb⟩ : ∃ b, b = W2.heap.size := ⟨_, rfl⟩
  rw [← hb] at h3 ⊢
  go_loopw [1] (fun v1 wr => ∃ (m : Nat) (a o : Int), v1 = .int .i64 (m : Int) ∧ m ≤ 100 ∧ Hid (PowInv x a o m k) ∧ BoxP w wr 23 b a o) (fun v1 _ => (intOf v1).toNat)
  case atStart => exact ⟨k, x, 1, rfl, hk, Lib.hid ⟨Nat.le_refl _, 0, 1, (Int.pow_zero x).symm, (Int.pow_one x).symm, by omega, fun h => h, by omega⟩, h3⟩
  case round =>
    obtain ⟨m, a, o, rfl, hm, hi, hB⟩ := hrel
    clear h2 h3 hb
    have hba : Bd 400000000 a := by
      obtain ⟨_, i, j, _, rfl, _, _, hj⟩ := hi.out
      exact (HX.out.pow (by omega) j 100 hj (by omega)).mono (by omega)
    have hbo : Bd 400000000 o := by
      obtain ⟨_, i, j, rfl, _, hij, _, hj⟩ := hi.out
      exact (HX.out.pow (by omega) i 100 (by omega) (by omega)).mono (by omega)
    have HOA := fun W => Lib.hid (Mul_any o a W hbo hba)
    have HAA := fun W => Lib.hid (Mul_any a a W hba hba)
    clear hba hbo
    obtain ⟨x0, x1⟩ := hB.a.cells
    obtain ⟨u0, u1⟩ := hB.u.cells
    obtain ⟨g0, g1⟩ := hB.u.free
    obtain ⟨f0, f1⟩ := hB.a.free
    by_cases h0 : m = 0
    · subst h0
      rw [show (((0 : Nat) : Int)) = 0 from rfl]
      obtain ⟨z0, z1⟩ := hB.z.cells
      obtain ⟨c0, c1⟩ := hB.z.free
      go_wp2_with fail
      obtain ⟨r0, r1⟩ := hB.z.read (.bool (sg o)) (.string (mg o))
      have hout : o = x ^ k := by
        obtain ⟨_, i, j, rfl, _, hij, _, _⟩ := hi.out
        rw [show i = k by omega]
      rw [← hout]
      exact bodyPost_ret (v := .tuple #[vI o, .int .i64 0]) (by simp [results, Tryd.results17, go_sem, vI, r0, r1]) rfl ⟨rfl, (hB.b.setCell (by simp) _).setCell (by simp) _⟩
    · by_cases h1 : m = 1
      · subst h1
        rw [show (((1 : Nat) : Int)) = 1 from rfl]
        go_wp2_with fail
        refine (HOA _).out.mono ?_
        rintro e W5 ⟨rfl, hb5⟩
        have hC := hB.below hb5
        clear x0 x1 u0 u1 f0 f1 g0 g1
        obtain ⟨x0, x1⟩ := hC.a.cells
        obtain ⟨u0, u1⟩ := hC.u.cells
        obtain ⟨g0, g1⟩ := hC.u.free
        obtain ⟨f0, f1⟩ := hC.a.free
        go_wp2_with fail
        go_roundw
        case rel =>
          refine ⟨0, a, o * a, rfl, by omega, Lib.hid ?_, hC.setu _⟩
          obtain ⟨h1, i, j, rfl, rfl, hij, hjk, hj⟩ := hi.out
          exact ⟨by omega, i + j, j, by rw [Int.pow_add], rfl, by omega, fun h => by omega, hj⟩
        case measure => simp [intOf]
      · have e1 : ¬ (m : Int) ≤ 0 := by omega
        have e2 : (1 : Int) < m := by omega
        rcases Nat.mod_two_eq_zero_or_one m with h2 | h2
        · have hbit : (bits BinOp.and IntKind.i64 (m : Int) 1 == 1) = false := by rw [and1_small m (by omega)]; simp [h2]
          go_wp2_with fail
          refine (HAA _).out.mono ?_
          rintro e W5 ⟨rfl, hb5⟩
          have hC := hB.below hb5
          clear x0 x1 u0 u1 f0 f1 g0 g1
          obtain ⟨f0, f1⟩ := hC.a.free
          obtain ⟨x0, x1⟩ := hC.a.cells
          go_wp2_with fail
          go_roundw
          case rel =>
            refine ⟨m / 2, a * a, o, by go_num, by omega, Lib.hid ?_, hC.seta _⟩
            obtain ⟨hm2, i, j, rfl, rfl, hij, hjk, hj⟩ := hi.out
            exact pow_even hj (by omega) h2 hij hm2 hk
          case measure => simp [intOf]; omega
        · have hbit : (bits BinOp.and IntKind.i64 (m : Int) 1 == 1) = true := by rw [and1_small m (by omega)]; simp [h2]
          go_wp2_with fail
          refine (HOA _).out.mono ?_
          rintro e W5 ⟨rfl, hb5⟩
          have hC := hB.below hb5
          clear x0 x1 u0 u1 f0 f1 g0 g1
          obtain ⟨x0, x1⟩ := hC.a.cells
          obtain ⟨u0, u1⟩ := hC.u.cells
          obtain ⟨g0, g1⟩ := hC.u.free
          obtain ⟨f0, f1⟩ := hC.a.free
          have hne1 : ¬ (b = w.heap.size) := by have := hC.n; omega
          have hne2 : ¬ (w.heap.size = b) := by have := hC.n; omega
          go_wp2_with fail
          have hD := hC.setu (o * a)
          obtain ⟨W6, hW6⟩ : ∃ W6, W6 = (W5.setCell ⟨b, 0, none⟩ (.bool (sg (o * a)))).setCell ⟨b, 1, none⟩ (.string (mg (o * a))) := ⟨_, rfl⟩
          rw [← hW6] at hD ⊢
          clear x0 x1 u0 u1 f0 f1 g0 g1 hW6
          obtain ⟨x0, x1⟩ := hD.a.cells
          refine (HAA _).out.mono ?_
          rintro e W7 ⟨rfl, hb7⟩
          have hE := hD.below hb7
          clear x0 x1
          obtain ⟨f0, f1⟩ := hE.a.free
          obtain ⟨x0, x1⟩ := hE.a.cells
          go_wp2_with fail
          go_roundw
          case rel =>
            refine ⟨m / 2, a * a, o * a, by go_num, by omega, Lib.hid ?_, hE.seta _⟩
            obtain ⟨hm2, i, j, rfl, rfl, hij, hjk, hj⟩ := hi.out
            exact pow_odd hj (by omega) h2 hij hm2 hk
          case measure => simp [intOf]; omega

theorem vI_zero : vI 0 = .agg #[.bool false, .string ⟨#[]⟩] := by
  have h : mg 0 = ⟨#[]⟩ := by
    apply ByteArray.ext
    exact Array.eq_empty_of_size_eq_zero ((mg_size_zero (z := 0)).2 rfl)
  unfold vI
  rw [h]; rfl
end Go.Proofs.YtboolbcckfldaaaDoor
