import Derived.Test.YtboolbcckfldaaaDoorLawB
namespace Go.Proofs.YtboolbcckfldaaaDoor
open Go.RowKit
set_option linter.unusedVariables false
set_option linter.unusedSimpArgs false

theorem rdi_three (w : World) (t : TypeId) (a b c : Bool) (r s u : ByteArray) : RdI (w.alloc (.cells #[.bool a, .string r, .bool b, .string s, .bool c, .string u] t)) (some ⟨w.heap.size, 0, none⟩) [(a, r), (b, s), (c, u)] := fun i hi => by
  have : i = 0 ∨ i = 1 ∨ i = 2 := by simp at hi; omega
  rcases this with rfl | rfl | rfl
  all_goals exact ⟨w.heap.size, 0, rfl, by simp [World.cell?_alloc_at], by simp [World.cell?_alloc_at]⟩

/-- three arguments in memory -/
structure Box3s (w W : World) (t : TypeId) (a b c d e f : Value) : Prop where
  x : Two W w.heap.size t a b
  y : Two W (w.heap.size + 1) t c d
  z : Two W (w.heap.size + 1 + 1) t e f
  b : Below w.heap.size w W
  s : w.heap.size + 3 ≤ W.heap.size
theorem Box3s.new (w : World) (t : TypeId) (a b c d e f : Value) : Box3s w (((w.alloc (.cells #[a, b] t)).alloc (.cells #[c, d] t)).alloc (.cells #[e, f] t)) t a b c d e f := by
  have h1 := Two.new w t a b
  have h2 := Two.new (w.alloc (.cells #[a, b] t)) t c d
  have h3 := Two.new ((w.alloc (.cells #[a, b] t)).alloc (.cells #[c, d] t)) t e f
  refine ⟨(h1.alloc _).alloc _, ?_, ?_, (((Below.refl _ _).alloc (Nat.le_refl _) _).alloc (by simp) _).alloc (by simp; omega) _, by simp⟩
  · have := h2.alloc (.cells #[e, f] t); simpa using this
  · simpa using h3
theorem Box3s.below {w W W' : World} {t : TypeId} {a b c d e f : Value} (h : Box3s w W t a b c d e f) (hb : Below W.heap.size W W') : Box3s w W' t a b c d e f :=
  ⟨h.x.below hb h.x.lt, h.y.below hb h.y.lt, h.z.below hb h.z.lt, h.b.trans (hb.mono (by have := h.s; omega)), by have := hb.size; have := h.s; omega⟩
theorem Box3s.alloc {w W : World} {t : TypeId} {a b c d e f : Value} (h : Box3s w W t a b c d e f) (o : Obj) : Box3s w (W.alloc o) t a b c d e f :=
  h.below ((Below.refl _ _).alloc (Nat.le_refl _) o)

set_option maxHeartbeats 4000000 in
set_option maxRecDepth 100000 in
theorem Ring_yes (x y z : Int) (w : World) (ht : HasTab w) (hx : Bd 60 x) (hy : Bd 60 y) (hz : Bd 60 z) (hr : ([(sg x, mg x), (sg y, mg y), (sg z, mg z)].all fun p => vld p.1 p.2) = true ∧ ([(sg x, mg x), (sg y, mg y), (sg z, mg z)].all fun p => decide (p.2.size ≤ 60)) = true) : Calls Tryd.prog 3 #[vI x, vI y, vI z] w (RetB true w) := by
  have h0 := Box3s.new w 23 (.bool (sg x)) (.string (mg x)) (.bool (sg y)) (.string (mg y)) (.bool (sg z)) (.string (mg z))
  obtain ⟨zero, hzero⟩ : ∃ m : Int, m = 0 := ⟨_, rfl⟩
  obtain ⟨one, hone⟩ : ∃ m : Int, m = 1 := ⟨_, rfl⟩
  have hb0 : Bd 60 zero := by rw [hzero]; exact Bd.zero _
  have hb1 : Bd 60 one := by rw [hone]; exact Bd.one (by omega)
  have HAW := fun W h => Lib.hid (awake_any W h)
  have HRI := fun (A : Option Addr) c W h => Lib.hid (right_any A c [(sg x, mg x), (sg y, mg y), (sg z, mg z)] W h (by simp))
  rw [hr.1, hr.2] at HRI
  clear hr
  have A1 : ∀ W, Hid (Calls Tryd.prog 13 #[vI (x), vI (y)] W (RetI (x + y) W)) := fun W => Lib.hid (by
    have h := Add_any (x) (y) W (by first | exact hx.mono (by omega) | exact hy.mono (by omega) | exact hz.mono (by omega) | exact (hx.add hy).mono (by omega) | exact (hy.add hz).mono (by omega) | exact (hx.mul hy).mono (by omega) | exact (hy.mul hz).mono (by omega) | exact (hx.mul hz).mono (by omega) | exact hy.neg.mono (by omega) | exact hb0.mono (by omega) | exact hb1.mono (by omega)) (by first | exact hx.mono (by omega) | exact hy.mono (by omega) | exact hz.mono (by omega) | exact (hx.add hy).mono (by omega) | exact (hy.add hz).mono (by omega) | exact (hx.mul hy).mono (by omega) | exact (hy.mul hz).mono (by omega) | exact (hx.mul hz).mono (by omega) | exact hy.neg.mono (by omega) | exact hb0.mono (by omega) | exact hb1.mono (by omega))
    rwa [show x + y = x + y from rfl] at h)
  have A2 : ∀ W, Hid (Calls Tryd.prog 13 #[vI (y), vI (x)] W (RetI (x + y) W)) := fun W => Lib.hid (by
    have h := Add_any (y) (x) W (by first | exact hx.mono (by omega) | exact hy.mono (by omega) | exact hz.mono (by omega) | exact (hx.add hy).mono (by omega) | exact (hy.add hz).mono (by omega) | exact (hx.mul hy).mono (by omega) | exact (hy.mul hz).mono (by omega) | exact (hx.mul hz).mono (by omega) | exact hy.neg.mono (by omega) | exact hb0.mono (by omega) | exact hb1.mono (by omega)) (by first | exact hx.mono (by omega) | exact hy.mono (by omega) | exact hz.mono (by omega) | exact (hx.add hy).mono (by omega) | exact (hy.add hz).mono (by omega) | exact (hx.mul hy).mono (by omega) | exact (hy.mul hz).mono (by omega) | exact (hx.mul hz).mono (by omega) | exact hy.neg.mono (by omega) | exact hb0.mono (by omega) | exact hb1.mono (by omega))
    rwa [show y + x = x + y from Int.add_comm y x] at h)
  have A3 : ∀ W, Hid (Calls Tryd.prog 13 #[vI ((x + y)), vI (z)] W (RetI (x + y + z) W)) := fun W => Lib.hid (by
    have h := Add_any ((x + y)) (z) W (by first | exact hx.mono (by omega) | exact hy.mono (by omega) | exact hz.mono (by omega) | exact (hx.add hy).mono (by omega) | exact (hy.add hz).mono (by omega) | exact (hx.mul hy).mono (by omega) | exact (hy.mul hz).mono (by omega) | exact (hx.mul hz).mono (by omega) | exact hy.neg.mono (by omega) | exact hb0.mono (by omega) | exact hb1.mono (by omega)) (by first | exact hx.mono (by omega) | exact hy.mono (by omega) | exact hz.mono (by omega) | exact (hx.add hy).mono (by omega) | exact (hy.add hz).mono (by omega) | exact (hx.mul hy).mono (by omega) | exact (hy.mul hz).mono (by omega) | exact (hx.mul hz).mono (by omega) | exact hy.neg.mono (by omega) | exact hb0.mono (by omega) | exact hb1.mono (by omega))
    rwa [show (x + y) + z = x + y + z from rfl] at h)
  have A4 : ∀ W, Hid (Calls Tryd.prog 13 #[vI (y), vI (z)] W (RetI (y + z) W)) := fun W => Lib.hid (by
    have h := Add_any (y) (z) W (by first | exact hx.mono (by omega) | exact hy.mono (by omega) | exact hz.mono (by omega) | exact (hx.add hy).mono (by omega) | exact (hy.add hz).mono (by omega) | exact (hx.mul hy).mono (by omega) | exact (hy.mul hz).mono (by omega) | exact (hx.mul hz).mono (by omega) | exact hy.neg.mono (by omega) | exact hb0.mono (by omega) | exact hb1.mono (by omega)) (by first | exact hx.mono (by omega) | exact hy.mono (by omega) | exact hz.mono (by omega) | exact (hx.add hy).mono (by omega) | exact (hy.add hz).mono (by omega) | exact (hx.mul hy).mono (by omega) | exact (hy.mul hz).mono (by omega) | exact (hx.mul hz).mono (by omega) | exact hy.neg.mono (by omega) | exact hb0.mono (by omega) | exact hb1.mono (by omega))
    rwa [show y + z = y + z from rfl] at h)
  have A5 : ∀ W, Hid (Calls Tryd.prog 13 #[vI (x), vI ((y + z))] W (RetI (x + y + z) W)) := fun W => Lib.hid (by
    have h := Add_any (x) ((y + z)) W (by first | exact hx.mono (by omega) | exact hy.mono (by omega) | exact hz.mono (by omega) | exact (hx.add hy).mono (by omega) | exact (hy.add hz).mono (by omega) | exact (hx.mul hy).mono (by omega) | exact (hy.mul hz).mono (by omega) | exact (hx.mul hz).mono (by omega) | exact hy.neg.mono (by omega) | exact hb0.mono (by omega) | exact hb1.mono (by omega)) (by first | exact hx.mono (by omega) | exact hy.mono (by omega) | exact hz.mono (by omega) | exact (hx.add hy).mono (by omega) | exact (hy.add hz).mono (by omega) | exact (hx.mul hy).mono (by omega) | exact (hy.mul hz).mono (by omega) | exact (hx.mul hz).mono (by omega) | exact hy.neg.mono (by omega) | exact hb0.mono (by omega) | exact hb1.mono (by omega))
    rwa [show x + (y + z) = x + y + z from (Int.add_assoc x y z).symm] at h)
  have A6 : ∀ W, Hid (Calls Tryd.prog 13 #[vI ((x * y)), vI ((x * z))] W (RetI (x * (y + z)) W)) := fun W => Lib.hid (by
    have h := Add_any ((x * y)) ((x * z)) W (by first | exact hx.mono (by omega) | exact hy.mono (by omega) | exact hz.mono (by omega) | exact (hx.add hy).mono (by omega) | exact (hy.add hz).mono (by omega) | exact (hx.mul hy).mono (by omega) | exact (hy.mul hz).mono (by omega) | exact (hx.mul hz).mono (by omega) | exact hy.neg.mono (by omega) | exact hb0.mono (by omega) | exact hb1.mono (by omega)) (by first | exact hx.mono (by omega) | exact hy.mono (by omega) | exact hz.mono (by omega) | exact (hx.add hy).mono (by omega) | exact (hy.add hz).mono (by omega) | exact (hx.mul hy).mono (by omega) | exact (hy.mul hz).mono (by omega) | exact (hx.mul hz).mono (by omega) | exact hy.neg.mono (by omega) | exact hb0.mono (by omega) | exact hb1.mono (by omega))
    rwa [show (x * y) + (x * z) = x * (y + z) from (Int.mul_add x y z).symm] at h)
  have A7 : ∀ W, Hid (Calls Tryd.prog 13 #[vI (x), vI ((-y))] W (RetI (x - y) W)) := fun W => Lib.hid (by
    have h := Add_any (x) ((-y)) W (by first | exact hx.mono (by omega) | exact hy.mono (by omega) | exact hz.mono (by omega) | exact (hx.add hy).mono (by omega) | exact (hy.add hz).mono (by omega) | exact (hx.mul hy).mono (by omega) | exact (hy.mul hz).mono (by omega) | exact (hx.mul hz).mono (by omega) | exact hy.neg.mono (by omega) | exact hb0.mono (by omega) | exact hb1.mono (by omega)) (by first | exact hx.mono (by omega) | exact hy.mono (by omega) | exact hz.mono (by omega) | exact (hx.add hy).mono (by omega) | exact (hy.add hz).mono (by omega) | exact (hx.mul hy).mono (by omega) | exact (hy.mul hz).mono (by omega) | exact (hx.mul hz).mono (by omega) | exact hy.neg.mono (by omega) | exact hb0.mono (by omega) | exact hb1.mono (by omega))
    rwa [show x + (-y) = x - y from (Int.sub_eq_add_neg).symm] at h)
  have A8 : ∀ W, Hid (Calls Tryd.prog 13 #[vI (x), vI (zero)] W (RetI (x) W)) := fun W => Lib.hid (by
    have h := Add_any (x) (zero) W (by first | exact hx.mono (by omega) | exact hy.mono (by omega) | exact hz.mono (by omega) | exact (hx.add hy).mono (by omega) | exact (hy.add hz).mono (by omega) | exact (hx.mul hy).mono (by omega) | exact (hy.mul hz).mono (by omega) | exact (hx.mul hz).mono (by omega) | exact hy.neg.mono (by omega) | exact hb0.mono (by omega) | exact hb1.mono (by omega)) (by first | exact hx.mono (by omega) | exact hy.mono (by omega) | exact hz.mono (by omega) | exact (hx.add hy).mono (by omega) | exact (hy.add hz).mono (by omega) | exact (hx.mul hy).mono (by omega) | exact (hy.mul hz).mono (by omega) | exact (hx.mul hz).mono (by omega) | exact hy.neg.mono (by omega) | exact hb0.mono (by omega) | exact hb1.mono (by omega))
    rwa [show x + zero = x from (by rw [hzero]; exact Int.add_zero x)] at h)
  have M1 : ∀ W, Hid (Calls Tryd.prog 14 #[vI (x), vI (y)] W (RetI (x * y) W)) := fun W => Lib.hid (by
    have h := Mul_any (x) (y) W (by first | exact hx.mono (by omega) | exact hy.mono (by omega) | exact hz.mono (by omega) | exact (hx.add hy).mono (by omega) | exact (hy.add hz).mono (by omega) | exact (hx.mul hy).mono (by omega) | exact (hy.mul hz).mono (by omega) | exact (hx.mul hz).mono (by omega) | exact hy.neg.mono (by omega) | exact hb0.mono (by omega) | exact hb1.mono (by omega)) (by first | exact hx.mono (by omega) | exact hy.mono (by omega) | exact hz.mono (by omega) | exact (hx.add hy).mono (by omega) | exact (hy.add hz).mono (by omega) | exact (hx.mul hy).mono (by omega) | exact (hy.mul hz).mono (by omega) | exact (hx.mul hz).mono (by omega) | exact hy.neg.mono (by omega) | exact hb0.mono (by omega) | exact hb1.mono (by omega))
    rwa [show x * y = x * y from rfl] at h)
  have M2 : ∀ W, Hid (Calls Tryd.prog 14 #[vI (y), vI (x)] W (RetI (x * y) W)) := fun W => Lib.hid (by
    have h := Mul_any (y) (x) W (by first | exact hx.mono (by omega) | exact hy.mono (by omega) | exact hz.mono (by omega) | exact (hx.add hy).mono (by omega) | exact (hy.add hz).mono (by omega) | exact (hx.mul hy).mono (by omega) | exact (hy.mul hz).mono (by omega) | exact (hx.mul hz).mono (by omega) | exact hy.neg.mono (by omega) | exact hb0.mono (by omega) | exact hb1.mono (by omega)) (by first | exact hx.mono (by omega) | exact hy.mono (by omega) | exact hz.mono (by omega) | exact (hx.add hy).mono (by omega) | exact (hy.add hz).mono (by omega) | exact (hx.mul hy).mono (by omega) | exact (hy.mul hz).mono (by omega) | exact (hx.mul hz).mono (by omega) | exact hy.neg.mono (by omega) | exact hb0.mono (by omega) | exact hb1.mono (by omega))
    rwa [show y * x = x * y from Int.mul_comm y x] at h)
  have M3 : ∀ W, Hid (Calls Tryd.prog 14 #[vI ((x * y)), vI (z)] W (RetI (x * y * z) W)) := fun W => Lib.hid (by
    have h := Mul_any ((x * y)) (z) W (by first | exact hx.mono (by omega) | exact hy.mono (by omega) | exact hz.mono (by omega) | exact (hx.add hy).mono (by omega) | exact (hy.add hz).mono (by omega) | exact (hx.mul hy).mono (by omega) | exact (hy.mul hz).mono (by omega) | exact (hx.mul hz).mono (by omega) | exact hy.neg.mono (by omega) | exact hb0.mono (by omega) | exact hb1.mono (by omega)) (by first | exact hx.mono (by omega) | exact hy.mono (by omega) | exact hz.mono (by omega) | exact (hx.add hy).mono (by omega) | exact (hy.add hz).mono (by omega) | exact (hx.mul hy).mono (by omega) | exact (hy.mul hz).mono (by omega) | exact (hx.mul hz).mono (by omega) | exact hy.neg.mono (by omega) | exact hb0.mono (by omega) | exact hb1.mono (by omega))
    rwa [show (x * y) * z = x * y * z from rfl] at h)
  have M4 : ∀ W, Hid (Calls Tryd.prog 14 #[vI (y), vI (z)] W (RetI (y * z) W)) := fun W => Lib.hid (by
    have h := Mul_any (y) (z) W (by first | exact hx.mono (by omega) | exact hy.mono (by omega) | exact hz.mono (by omega) | exact (hx.add hy).mono (by omega) | exact (hy.add hz).mono (by omega) | exact (hx.mul hy).mono (by omega) | exact (hy.mul hz).mono (by omega) | exact (hx.mul hz).mono (by omega) | exact hy.neg.mono (by omega) | exact hb0.mono (by omega) | exact hb1.mono (by omega)) (by first | exact hx.mono (by omega) | exact hy.mono (by omega) | exact hz.mono (by omega) | exact (hx.add hy).mono (by omega) | exact (hy.add hz).mono (by omega) | exact (hx.mul hy).mono (by omega) | exact (hy.mul hz).mono (by omega) | exact (hx.mul hz).mono (by omega) | exact hy.neg.mono (by omega) | exact hb0.mono (by omega) | exact hb1.mono (by omega))
    rwa [show y * z = y * z from rfl] at h)
  have M5 : ∀ W, Hid (Calls Tryd.prog 14 #[vI (x), vI ((y * z))] W (RetI (x * y * z) W)) := fun W => Lib.hid (by
    have h := Mul_any (x) ((y * z)) W (by first | exact hx.mono (by omega) | exact hy.mono (by omega) | exact hz.mono (by omega) | exact (hx.add hy).mono (by omega) | exact (hy.add hz).mono (by omega) | exact (hx.mul hy).mono (by omega) | exact (hy.mul hz).mono (by omega) | exact (hx.mul hz).mono (by omega) | exact hy.neg.mono (by omega) | exact hb0.mono (by omega) | exact hb1.mono (by omega)) (by first | exact hx.mono (by omega) | exact hy.mono (by omega) | exact hz.mono (by omega) | exact (hx.add hy).mono (by omega) | exact (hy.add hz).mono (by omega) | exact (hx.mul hy).mono (by omega) | exact (hy.mul hz).mono (by omega) | exact (hx.mul hz).mono (by omega) | exact hy.neg.mono (by omega) | exact hb0.mono (by omega) | exact hb1.mono (by omega))
    rwa [show x * (y * z) = x * y * z from (Int.mul_assoc x y z).symm] at h)
  have M6 : ∀ W, Hid (Calls Tryd.prog 14 #[vI (x), vI ((y + z))] W (RetI (x * (y + z)) W)) := fun W => Lib.hid (by
    have h := Mul_any (x) ((y + z)) W (by first | exact hx.mono (by omega) | exact hy.mono (by omega) | exact hz.mono (by omega) | exact (hx.add hy).mono (by omega) | exact (hy.add hz).mono (by omega) | exact (hx.mul hy).mono (by omega) | exact (hy.mul hz).mono (by omega) | exact (hx.mul hz).mono (by omega) | exact hy.neg.mono (by omega) | exact hb0.mono (by omega) | exact hb1.mono (by omega)) (by first | exact hx.mono (by omega) | exact hy.mono (by omega) | exact hz.mono (by omega) | exact (hx.add hy).mono (by omega) | exact (hy.add hz).mono (by omega) | exact (hx.mul hy).mono (by omega) | exact (hy.mul hz).mono (by omega) | exact (hx.mul hz).mono (by omega) | exact hy.neg.mono (by omega) | exact hb0.mono (by omega) | exact hb1.mono (by omega))
    rwa [show x * (y + z) = x * (y + z) from rfl] at h)
  have M7 : ∀ W, Hid (Calls Tryd.prog 14 #[vI (x), vI (z)] W (RetI (x * z) W)) := fun W => Lib.hid (by
    have h := Mul_any (x) (z) W (by first | exact hx.mono (by omega) | exact hy.mono (by omega) | exact hz.mono (by omega) | exact (hx.add hy).mono (by omega) | exact (hy.add hz).mono (by omega) | exact (hx.mul hy).mono (by omega) | exact (hy.mul hz).mono (by omega) | exact (hx.mul hz).mono (by omega) | exact hy.neg.mono (by omega) | exact hb0.mono (by omega) | exact hb1.mono (by omega)) (by first | exact hx.mono (by omega) | exact hy.mono (by omega) | exact hz.mono (by omega) | exact (hx.add hy).mono (by omega) | exact (hy.add hz).mono (by omega) | exact (hx.mul hy).mono (by omega) | exact (hy.mul hz).mono (by omega) | exact (hx.mul hz).mono (by omega) | exact hy.neg.mono (by omega) | exact hb0.mono (by omega) | exact hb1.mono (by omega))
    rwa [show x * z = x * z from rfl] at h)
  have M8 : ∀ W, Hid (Calls Tryd.prog 14 #[vI (x), vI (one)] W (RetI (x) W)) := fun W => Lib.hid (by
    have h := Mul_any (x) (one) W (by first | exact hx.mono (by omega) | exact hy.mono (by omega) | exact hz.mono (by omega) | exact (hx.add hy).mono (by omega) | exact (hy.add hz).mono (by omega) | exact (hx.mul hy).mono (by omega) | exact (hy.mul hz).mono (by omega) | exact (hx.mul hz).mono (by omega) | exact hy.neg.mono (by omega) | exact hb0.mono (by omega) | exact hb1.mono (by omega)) (by first | exact hx.mono (by omega) | exact hy.mono (by omega) | exact hz.mono (by omega) | exact (hx.add hy).mono (by omega) | exact (hy.add hz).mono (by omega) | exact (hx.mul hy).mono (by omega) | exact (hy.mul hz).mono (by omega) | exact (hx.mul hz).mono (by omega) | exact hy.neg.mono (by omega) | exact hb0.mono (by omega) | exact hb1.mono (by omega))
    rwa [show x * one = x from (by rw [hone]; exact Int.mul_one x)] at h)
  have S1 : ∀ W, Hid (Calls Tryd.prog 15 #[vI x, vI y] W (RetI (x - y) W)) := fun W => Lib.hid (Sub_any x y W (by first | exact hx.mono (by omega) | exact hy.mono (by omega) | exact hz.mono (by omega) | exact (hx.add hy).mono (by omega) | exact (hy.add hz).mono (by omega) | exact (hx.mul hy).mono (by omega) | exact (hy.mul hz).mono (by omega) | exact (hx.mul hz).mono (by omega) | exact hy.neg.mono (by omega) | exact hb0.mono (by omega) | exact hb1.mono (by omega)) (by first | exact hx.mono (by omega) | exact hy.mono (by omega) | exact hz.mono (by omega) | exact (hx.add hy).mono (by omega) | exact (hy.add hz).mono (by omega) | exact (hx.mul hy).mono (by omega) | exact (hy.mul hz).mono (by omega) | exact (hx.mul hz).mono (by omega) | exact hy.neg.mono (by omega) | exact hb0.mono (by omega) | exact hb1.mono (by omega)))
  have S2 : ∀ W, Hid (Calls Tryd.prog 15 #[vI x, vI x] W (RetI zero W)) := fun W => Lib.hid (by
    have h := Sub_any x x W (by first | exact hx.mono (by omega) | exact hy.mono (by omega) | exact hz.mono (by omega) | exact (hx.add hy).mono (by omega) | exact (hy.add hz).mono (by omega) | exact (hx.mul hy).mono (by omega) | exact (hy.mul hz).mono (by omega) | exact (hx.mul hz).mono (by omega) | exact hy.neg.mono (by omega) | exact hb0.mono (by omega) | exact hb1.mono (by omega)) (by first | exact hx.mono (by omega) | exact hy.mono (by omega) | exact hz.mono (by omega) | exact (hx.add hy).mono (by omega) | exact (hy.add hz).mono (by omega) | exact (hx.mul hy).mono (by omega) | exact (hy.mul hz).mono (by omega) | exact (hx.mul hz).mono (by omega) | exact hy.neg.mono (by omega) | exact hb0.mono (by omega) | exact hb1.mono (by omega))
    rw [Int.sub_self] at h
    rw [hzero]; exact h)
  have N1 : ∀ W, Hid (Calls Tryd.prog 16 #[vI y] W (RetI (-y) W)) := fun W => Lib.hid (Neg_any y W)
  have O0 : ∀ W, Hid (Calls Tryd.prog 12 #[.int .i64 0] W (RetI zero W)) := fun W => Lib.hid (by rw [hzero]; exact Of_any 0 W (by omega) (by omega))
  have O1 : ∀ W, Hid (Calls Tryd.prog 12 #[.int .i64 1] W (RetI one W)) := fun W => Lib.hid (by rw [hone]; exact Of_any 1 W (by omega) (by omega))
  generalize x + y + z = s3 at *
  generalize x + y = u at *
  generalize x * y * z = p3 at *
  generalize x * (y + z) = d at *
  generalize y + z = t at *
  generalize y * z = q at *
  generalize x * y = v at *
  generalize x * z = r at *
  generalize x - y = e at *
  generalize -y = ny at *
  have HT := Lib.hid ht
  clear hx hy hz ht hb0 hb1 hzero hone
  go_enter Tryd.func3, Tryd.ntmps3
  go_wp2_with fail
  obtain ⟨W0, hW0⟩ : ∃ W0, W0 = (((w.alloc (.cells #[.bool (sg x), .string (mg x)] 23)).alloc (.cells #[.bool (sg y), .string (mg y)] 23)).alloc (.cells #[.bool (sg z), .string (mg z)] 23)) := ⟨_, rfl⟩
  rw [← hW0] at h0 ⊢
  clear hW0
  refine (HAW W0 (HT.out.below h0.b)).out.mono ?_
  rintro e W1 ⟨rfl, hb⟩
  have h1 := h0.below hb
  clear hb h0 HAW
  obtain ⟨x0, x1⟩ := h1.x.cells
  obtain ⟨y0, y1⟩ := h1.y.cells
  obtain ⟨z0, z1⟩ := h1.z.cells
  go_wp2_with fail
  have hri := rdi_three W1 23 (sg x) (sg y) (sg z) (mg x) (mg y) (mg z)
  have h2 := h1.alloc (.cells #[.bool (sg x), .string (mg x), .bool (sg y), .string (mg y), .bool (sg z), .string (mg z)] 23)
  generalize W1.heap.size = n1 at hri ⊢
  generalize World.alloc W1 _ = W2 at hri h2 ⊢
  clear h1 x0 x1 y0 y1 z0 z1
  refine (HRI _ 3 W2 hri).out.mono ?_
  rintro e W3 ⟨rfl, hb⟩
  have h3 := h2.below hb
  clear hb h2 hri HRI
  go_wp2_with fail
  refine (O0 W3).out.mono ?_
  rintro e W4 ⟨rfl, hb⟩
  have h4 := h3.below hb
  clear hb h3
  go_wp2_with fail
  refine (O1 W4).out.mono ?_
  rintro e W5 ⟨rfl, hb⟩
  have h5 := h4.below hb
  clear hb h4 O0 O1
  go_wp2_with fail
  have t4 := (Two.new W5 23 (.bool (sg zero)) (.string (mg zero))).alloc (.cells #[.bool (sg one), .string (mg one)] 23)
  have t5 := Two.new (W5.alloc (.cells #[.bool (sg zero), .string (mg zero)] 23)) 23 (.bool (sg one)) (.string (mg one))
  have h6 := (h5.alloc (.cells #[.bool (sg zero), .string (mg zero)] 23)).alloc (.cells #[.bool (sg one), .string (mg one)] 23)
  rw [World.size_alloc] at t5
  generalize W5.heap.size = n5 at t4 t5 ⊢
  generalize World.alloc (World.alloc W5 _) _ = W6 at t4 t5 h6 ⊢
  clear h5
  obtain ⟨t1, t2, t3, hbl, _⟩ := h6
  refine region_qb (by kernel_rfl) (by kernel_rfl) ?_
  refine qb_run (vI x) (by kernel_rfl) (fun w' hC => by obtain ⟨q0, q1⟩ := (t1.below hC t1.lt).cells; go_simp) ?_
  simp only [Act.put, List.setIfInBounds_toArray, List.set_cons_zero, List.set_cons_succ]
  refine qb_run (vI y) (by kernel_rfl) (fun w' hC => by obtain ⟨q0, q1⟩ := (t2.below hC t2.lt).cells; go_simp) ?_
  simp only [Act.put, List.setIfInBounds_toArray, List.set_cons_zero, List.set_cons_succ]
  refine qb_call (vI u) 13 #[vI x, vI y] (by kernel_rfl) (fun w' => by go_simp) (fun w' hC => (A1 w').out.mono (fun e w'' h => ⟨h.1, hC.step h.2⟩)) ?_
  simp only [Act.put, List.setIfInBounds_toArray, List.set_cons_zero, List.set_cons_succ]
  refine qb_run (vI y) (by kernel_rfl) (fun w' hC => by obtain ⟨q0, q1⟩ := (t2.below hC t2.lt).cells; go_simp) ?_
  simp only [Act.put, List.setIfInBounds_toArray, List.set_cons_zero, List.set_cons_succ]
  refine qb_run (vI x) (by kernel_rfl) (fun w' hC => by obtain ⟨q0, q1⟩ := (t1.below hC t1.lt).cells; go_simp) ?_
  simp only [Act.put, List.setIfInBounds_toArray, List.set_cons_zero, List.set_cons_succ]
  refine qb_call (vI u) 13 #[vI y, vI x] (by kernel_rfl) (fun w' => by go_simp) (fun w' hC => (A2 w').out.mono (fun e w'' h => ⟨h.1, hC.step h.2⟩)) ?_
  simp only [Act.put, List.setIfInBounds_toArray, List.set_cons_zero, List.set_cons_succ]
  refine qb_run (.bool true) (by kernel_rfl) (fun w' hC => by go_simp) ?_
  simp only [Act.put, List.setIfInBounds_toArray, List.set_cons_zero, List.set_cons_succ]
  refine qb_mv (.bool true) _ (.inl rfl) (by kernel_rfl) (by rfl) ?_
  simp only [Act.put, List.setIfInBounds_toArray, List.set_cons_zero, List.set_cons_succ]
  refine qb_run (vI x) (by kernel_rfl) (fun w' hC => by obtain ⟨q0, q1⟩ := (t1.below hC t1.lt).cells; go_simp) ?_
  simp only [Act.put, List.setIfInBounds_toArray, List.set_cons_zero, List.set_cons_succ]
  refine qb_run (vI y) (by kernel_rfl) (fun w' hC => by obtain ⟨q0, q1⟩ := (t2.below hC t2.lt).cells; go_simp) ?_
  simp only [Act.put, List.setIfInBounds_toArray, List.set_cons_zero, List.set_cons_succ]
  refine qb_call (vI v) 14 #[vI x, vI y] (by kernel_rfl) (fun w' => by go_simp) (fun w' hC => (M1 w').out.mono (fun e w'' h => ⟨h.1, hC.step h.2⟩)) ?_
  simp only [Act.put, List.setIfInBounds_toArray, List.set_cons_zero, List.set_cons_succ]
  refine qb_run (vI y) (by kernel_rfl) (fun w' hC => by obtain ⟨q0, q1⟩ := (t2.below hC t2.lt).cells; go_simp) ?_
  simp only [Act.put, List.setIfInBounds_toArray, List.set_cons_zero, List.set_cons_succ]
  refine qb_run (vI x) (by kernel_rfl) (fun w' hC => by obtain ⟨q0, q1⟩ := (t1.below hC t1.lt).cells; go_simp) ?_
  simp only [Act.put, List.setIfInBounds_toArray, List.set_cons_zero, List.set_cons_succ]
  refine qb_call (vI v) 14 #[vI y, vI x] (by kernel_rfl) (fun w' => by go_simp) (fun w' hC => (M2 w').out.mono (fun e w'' h => ⟨h.1, hC.step h.2⟩)) ?_
  simp only [Act.put, List.setIfInBounds_toArray, List.set_cons_zero, List.set_cons_succ]
  refine qb_run (.bool true) (by kernel_rfl) (fun w' hC => by go_simp) ?_
  simp only [Act.put, List.setIfInBounds_toArray, List.set_cons_zero, List.set_cons_succ]
  refine qb_run (.bool true) (by kernel_rfl) (fun w' hC => by go_simp) ?_
  simp only [Act.put, List.setIfInBounds_toArray, List.set_cons_zero, List.set_cons_succ]
  refine qb_mv (.bool true) _ (.inl rfl) (by kernel_rfl) (by rfl) ?_
  simp only [Act.put, List.setIfInBounds_toArray, List.set_cons_zero, List.set_cons_succ]
  refine qb_run (vI x) (by kernel_rfl) (fun w' hC => by obtain ⟨q0, q1⟩ := (t1.below hC t1.lt).cells; go_simp) ?_
  simp only [Act.put, List.setIfInBounds_toArray, List.set_cons_zero, List.set_cons_succ]
  refine qb_run (vI y) (by kernel_rfl) (fun w' hC => by obtain ⟨q0, q1⟩ := (t2.below hC t2.lt).cells; go_simp) ?_
  simp only [Act.put, List.setIfInBounds_toArray, List.set_cons_zero, List.set_cons_succ]
  refine qb_call (vI u) 13 #[vI x, vI y] (by kernel_rfl) (fun w' => by go_simp) (fun w' hC => (A1 w').out.mono (fun e w'' h => ⟨h.1, hC.step h.2⟩)) ?_
  simp only [Act.put, List.setIfInBounds_toArray, List.set_cons_zero, List.set_cons_succ]
  refine qb_run (vI z) (by kernel_rfl) (fun w' hC => by obtain ⟨q0, q1⟩ := (t3.below hC t3.lt).cells; go_simp) ?_
  simp only [Act.put, List.setIfInBounds_toArray, List.set_cons_zero, List.set_cons_succ]
  refine qb_call (vI s3) 13 #[vI u, vI z] (by kernel_rfl) (fun w' => by go_simp) (fun w' hC => (A3 w').out.mono (fun e w'' h => ⟨h.1, hC.step h.2⟩)) ?_
  simp only [Act.put, List.setIfInBounds_toArray, List.set_cons_zero, List.set_cons_succ]
  refine qb_run (vI x) (by kernel_rfl) (fun w' hC => by obtain ⟨q0, q1⟩ := (t1.below hC t1.lt).cells; go_simp) ?_
  simp only [Act.put, List.setIfInBounds_toArray, List.set_cons_zero, List.set_cons_succ]
  refine qb_run (vI y) (by kernel_rfl) (fun w' hC => by obtain ⟨q0, q1⟩ := (t2.below hC t2.lt).cells; go_simp) ?_
  simp only [Act.put, List.setIfInBounds_toArray, List.set_cons_zero, List.set_cons_succ]
  refine qb_run (vI z) (by kernel_rfl) (fun w' hC => by obtain ⟨q0, q1⟩ := (t3.below hC t3.lt).cells; go_simp) ?_
  simp only [Act.put, List.setIfInBounds_toArray, List.set_cons_zero, List.set_cons_succ]
  refine qb_call (vI t) 13 #[vI y, vI z] (by kernel_rfl) (fun w' => by go_simp) (fun w' hC => (A4 w').out.mono (fun e w'' h => ⟨h.1, hC.step h.2⟩)) ?_
  simp only [Act.put, List.setIfInBounds_toArray, List.set_cons_zero, List.set_cons_succ]
  refine qb_call (vI s3) 13 #[vI x, vI t] (by kernel_rfl) (fun w' => by go_simp) (fun w' hC => (A5 w').out.mono (fun e w'' h => ⟨h.1, hC.step h.2⟩)) ?_
  simp only [Act.put, List.setIfInBounds_toArray, List.set_cons_zero, List.set_cons_succ]
  refine qb_run (.bool true) (by kernel_rfl) (fun w' hC => by go_simp) ?_
  simp only [Act.put, List.setIfInBounds_toArray, List.set_cons_zero, List.set_cons_succ]
  refine qb_run (.bool true) (by kernel_rfl) (fun w' hC => by go_simp) ?_
  simp only [Act.put, List.setIfInBounds_toArray, List.set_cons_zero, List.set_cons_succ]
  refine qb_mv (.bool true) _ (.inl rfl) (by kernel_rfl) (by rfl) ?_
  simp only [Act.put, List.setIfInBounds_toArray, List.set_cons_zero, List.set_cons_succ]
  refine qb_run (vI x) (by kernel_rfl) (fun w' hC => by obtain ⟨q0, q1⟩ := (t1.below hC t1.lt).cells; go_simp) ?_
  simp only [Act.put, List.setIfInBounds_toArray, List.set_cons_zero, List.set_cons_succ]
  refine qb_run (vI y) (by kernel_rfl) (fun w' hC => by obtain ⟨q0, q1⟩ := (t2.below hC t2.lt).cells; go_simp) ?_
  simp only [Act.put, List.setIfInBounds_toArray, List.set_cons_zero, List.set_cons_succ]
  refine qb_call (vI v) 14 #[vI x, vI y] (by kernel_rfl) (fun w' => by go_simp) (fun w' hC => (M1 w').out.mono (fun e w'' h => ⟨h.1, hC.step h.2⟩)) ?_
  simp only [Act.put, List.setIfInBounds_toArray, List.set_cons_zero, List.set_cons_succ]
  refine qb_run (vI z) (by kernel_rfl) (fun w' hC => by obtain ⟨q0, q1⟩ := (t3.below hC t3.lt).cells; go_simp) ?_
  simp only [Act.put, List.setIfInBounds_toArray, List.set_cons_zero, List.set_cons_succ]
  refine qb_call (vI p3) 14 #[vI v, vI z] (by kernel_rfl) (fun w' => by go_simp) (fun w' hC => (M3 w').out.mono (fun e w'' h => ⟨h.1, hC.step h.2⟩)) ?_
  simp only [Act.put, List.setIfInBounds_toArray, List.set_cons_zero, List.set_cons_succ]
  refine qb_run (vI x) (by kernel_rfl) (fun w' hC => by obtain ⟨q0, q1⟩ := (t1.below hC t1.lt).cells; go_simp) ?_
  simp only [Act.put, List.setIfInBounds_toArray, List.set_cons_zero, List.set_cons_succ]
  refine qb_run (vI y) (by kernel_rfl) (fun w' hC => by obtain ⟨q0, q1⟩ := (t2.below hC t2.lt).cells; go_simp) ?_
  simp only [Act.put, List.setIfInBounds_toArray, List.set_cons_zero, List.set_cons_succ]
  refine qb_run (vI z) (by kernel_rfl) (fun w' hC => by obtain ⟨q0, q1⟩ := (t3.below hC t3.lt).cells; go_simp) ?_
  simp only [Act.put, List.setIfInBounds_toArray, List.set_cons_zero, List.set_cons_succ]
  refine qb_call (vI q) 14 #[vI y, vI z] (by kernel_rfl) (fun w' => by go_simp) (fun w' hC => (M4 w').out.mono (fun e w'' h => ⟨h.1, hC.step h.2⟩)) ?_
  simp only [Act.put, List.setIfInBounds_toArray, List.set_cons_zero, List.set_cons_succ]
  refine qb_call (vI p3) 14 #[vI x, vI q] (by kernel_rfl) (fun w' => by go_simp) (fun w' hC => (M5 w').out.mono (fun e w'' h => ⟨h.1, hC.step h.2⟩)) ?_
  simp only [Act.put, List.setIfInBounds_toArray, List.set_cons_zero, List.set_cons_succ]
  refine qb_run (.bool true) (by kernel_rfl) (fun w' hC => by go_simp) ?_
  simp only [Act.put, List.setIfInBounds_toArray, List.set_cons_zero, List.set_cons_succ]
  refine qb_run (.bool true) (by kernel_rfl) (fun w' hC => by go_simp) ?_
  simp only [Act.put, List.setIfInBounds_toArray, List.set_cons_zero, List.set_cons_succ]
  refine qb_mv (.bool true) _ (.inl rfl) (by kernel_rfl) (by rfl) ?_
  simp only [Act.put, List.setIfInBounds_toArray, List.set_cons_zero, List.set_cons_succ]
  refine qb_run (vI x) (by kernel_rfl) (fun w' hC => by obtain ⟨q0, q1⟩ := (t1.below hC t1.lt).cells; go_simp) ?_
  simp only [Act.put, List.setIfInBounds_toArray, List.set_cons_zero, List.set_cons_succ]
  refine qb_run (vI y) (by kernel_rfl) (fun w' hC => by obtain ⟨q0, q1⟩ := (t2.below hC t2.lt).cells; go_simp) ?_
  simp only [Act.put, List.setIfInBounds_toArray, List.set_cons_zero, List.set_cons_succ]
  refine qb_run (vI z) (by kernel_rfl) (fun w' hC => by obtain ⟨q0, q1⟩ := (t3.below hC t3.lt).cells; go_simp) ?_
  simp only [Act.put, List.setIfInBounds_toArray, List.set_cons_zero, List.set_cons_succ]
  refine qb_call (vI t) 13 #[vI y, vI z] (by kernel_rfl) (fun w' => by go_simp) (fun w' hC => (A4 w').out.mono (fun e w'' h => ⟨h.1, hC.step h.2⟩)) ?_
  simp only [Act.put, List.setIfInBounds_toArray, List.set_cons_zero, List.set_cons_succ]
  refine qb_call (vI d) 14 #[vI x, vI t] (by kernel_rfl) (fun w' => by go_simp) (fun w' hC => (M6 w').out.mono (fun e w'' h => ⟨h.1, hC.step h.2⟩)) ?_
  simp only [Act.put, List.setIfInBounds_toArray, List.set_cons_zero, List.set_cons_succ]
  refine qb_run (vI x) (by kernel_rfl) (fun w' hC => by obtain ⟨q0, q1⟩ := (t1.below hC t1.lt).cells; go_simp) ?_
  simp only [Act.put, List.setIfInBounds_toArray, List.set_cons_zero, List.set_cons_succ]
  refine qb_run (vI y) (by kernel_rfl) (fun w' hC => by obtain ⟨q0, q1⟩ := (t2.below hC t2.lt).cells; go_simp) ?_
  simp only [Act.put, List.setIfInBounds_toArray, List.set_cons_zero, List.set_cons_succ]
  refine qb_call (vI v) 14 #[vI x, vI y] (by kernel_rfl) (fun w' => by go_simp) (fun w' hC => (M1 w').out.mono (fun e w'' h => ⟨h.1, hC.step h.2⟩)) ?_
  simp only [Act.put, List.setIfInBounds_toArray, List.set_cons_zero, List.set_cons_succ]
  refine qb_run (vI x) (by kernel_rfl) (fun w' hC => by obtain ⟨q0, q1⟩ := (t1.below hC t1.lt).cells; go_simp) ?_
  simp only [Act.put, List.setIfInBounds_toArray, List.set_cons_zero, List.set_cons_succ]
  refine qb_run (vI z) (by kernel_rfl) (fun w' hC => by obtain ⟨q0, q1⟩ := (t3.below hC t3.lt).cells; go_simp) ?_
  simp only [Act.put, List.setIfInBounds_toArray, List.set_cons_zero, List.set_cons_succ]
  refine qb_call (vI r) 14 #[vI x, vI z] (by kernel_rfl) (fun w' => by go_simp) (fun w' hC => (M7 w').out.mono (fun e w'' h => ⟨h.1, hC.step h.2⟩)) ?_
  simp only [Act.put, List.setIfInBounds_toArray, List.set_cons_zero, List.set_cons_succ]
  refine qb_call (vI d) 13 #[vI v, vI r] (by kernel_rfl) (fun w' => by go_simp) (fun w' hC => (A6 w').out.mono (fun e w'' h => ⟨h.1, hC.step h.2⟩)) ?_
  simp only [Act.put, List.setIfInBounds_toArray, List.set_cons_zero, List.set_cons_succ]
  refine qb_run (.bool true) (by kernel_rfl) (fun w' hC => by go_simp) ?_
  simp only [Act.put, List.setIfInBounds_toArray, List.set_cons_zero, List.set_cons_succ]
  refine qb_run (.bool true) (by kernel_rfl) (fun w' hC => by go_simp) ?_
  simp only [Act.put, List.setIfInBounds_toArray, List.set_cons_zero, List.set_cons_succ]
  refine qb_mv (.bool true) _ (.inl rfl) (by kernel_rfl) (by rfl) ?_
  simp only [Act.put, List.setIfInBounds_toArray, List.set_cons_zero, List.set_cons_succ]
  refine qb_run (vI x) (by kernel_rfl) (fun w' hC => by obtain ⟨q0, q1⟩ := (t1.below hC t1.lt).cells; go_simp) ?_
  simp only [Act.put, List.setIfInBounds_toArray, List.set_cons_zero, List.set_cons_succ]
  refine qb_run (vI y) (by kernel_rfl) (fun w' hC => by obtain ⟨q0, q1⟩ := (t2.below hC t2.lt).cells; go_simp) ?_
  simp only [Act.put, List.setIfInBounds_toArray, List.set_cons_zero, List.set_cons_succ]
  refine qb_call (vI e) 15 #[vI x, vI y] (by kernel_rfl) (fun w' => by go_simp) (fun w' hC => (S1 w').out.mono (fun e w'' h => ⟨h.1, hC.step h.2⟩)) ?_
  simp only [Act.put, List.setIfInBounds_toArray, List.set_cons_zero, List.set_cons_succ]
  refine qb_run (vI x) (by kernel_rfl) (fun w' hC => by obtain ⟨q0, q1⟩ := (t1.below hC t1.lt).cells; go_simp) ?_
  simp only [Act.put, List.setIfInBounds_toArray, List.set_cons_zero, List.set_cons_succ]
  refine qb_run (vI y) (by kernel_rfl) (fun w' hC => by obtain ⟨q0, q1⟩ := (t2.below hC t2.lt).cells; go_simp) ?_
  simp only [Act.put, List.setIfInBounds_toArray, List.set_cons_zero, List.set_cons_succ]
  refine qb_call (vI ny) 16 #[vI y] (by kernel_rfl) (fun w' => by go_simp) (fun w' hC => (N1 w').out.mono (fun e w'' h => ⟨h.1, hC.step h.2⟩)) ?_
  simp only [Act.put, List.setIfInBounds_toArray, List.set_cons_zero, List.set_cons_succ]
  refine qb_call (vI e) 13 #[vI x, vI ny] (by kernel_rfl) (fun w' => by go_simp) (fun w' hC => (A7 w').out.mono (fun e w'' h => ⟨h.1, hC.step h.2⟩)) ?_
  simp only [Act.put, List.setIfInBounds_toArray, List.set_cons_zero, List.set_cons_succ]
  refine qb_run (.bool true) (by kernel_rfl) (fun w' hC => by go_simp) ?_
  simp only [Act.put, List.setIfInBounds_toArray, List.set_cons_zero, List.set_cons_succ]
  refine qb_run (.bool true) (by kernel_rfl) (fun w' hC => by go_simp) ?_
  simp only [Act.put, List.setIfInBounds_toArray, List.set_cons_zero, List.set_cons_succ]
  refine qb_mv (.bool true) _ (.inl rfl) (by kernel_rfl) (by rfl) ?_
  simp only [Act.put, List.setIfInBounds_toArray, List.set_cons_zero, List.set_cons_succ]
  refine qb_run (vI x) (by kernel_rfl) (fun w' hC => by obtain ⟨q0, q1⟩ := (t1.below hC t1.lt).cells; go_simp) ?_
  simp only [Act.put, List.setIfInBounds_toArray, List.set_cons_zero, List.set_cons_succ]
  refine qb_run (vI zero) (by kernel_rfl) (fun w' hC => by obtain ⟨q0, q1⟩ := (t4.below hC t4.lt).cells; go_simp) ?_
  simp only [Act.put, List.setIfInBounds_toArray, List.set_cons_zero, List.set_cons_succ]
  refine qb_call (vI x) 13 #[vI x, vI zero] (by kernel_rfl) (fun w' => by go_simp) (fun w' hC => (A8 w').out.mono (fun e w'' h => ⟨h.1, hC.step h.2⟩)) ?_
  simp only [Act.put, List.setIfInBounds_toArray, List.set_cons_zero, List.set_cons_succ]
  refine qb_run (vI x) (by kernel_rfl) (fun w' hC => by obtain ⟨q0, q1⟩ := (t1.below hC t1.lt).cells; go_simp) ?_
  simp only [Act.put, List.setIfInBounds_toArray, List.set_cons_zero, List.set_cons_succ]
  refine qb_run (.bool true) (by kernel_rfl) (fun w' hC => by go_simp) ?_
  simp only [Act.put, List.setIfInBounds_toArray, List.set_cons_zero, List.set_cons_succ]
  refine qb_run (.bool true) (by kernel_rfl) (fun w' hC => by go_simp) ?_
  simp only [Act.put, List.setIfInBounds_toArray, List.set_cons_zero, List.set_cons_succ]
  refine qb_mv (.bool true) _ (.inl rfl) (by kernel_rfl) (by rfl) ?_
  simp only [Act.put, List.setIfInBounds_toArray, List.set_cons_zero, List.set_cons_succ]
  refine qb_run (vI x) (by kernel_rfl) (fun w' hC => by obtain ⟨q0, q1⟩ := (t1.below hC t1.lt).cells; go_simp) ?_
  simp only [Act.put, List.setIfInBounds_toArray, List.set_cons_zero, List.set_cons_succ]
  refine qb_run (vI one) (by kernel_rfl) (fun w' hC => by obtain ⟨q0, q1⟩ := (t5.below hC t5.lt).cells; go_simp) ?_
  simp only [Act.put, List.setIfInBounds_toArray, List.set_cons_zero, List.set_cons_succ]
  refine qb_call (vI x) 14 #[vI x, vI one] (by kernel_rfl) (fun w' => by go_simp) (fun w' hC => (M8 w').out.mono (fun e w'' h => ⟨h.1, hC.step h.2⟩)) ?_
  simp only [Act.put, List.setIfInBounds_toArray, List.set_cons_zero, List.set_cons_succ]
  refine qb_run (vI x) (by kernel_rfl) (fun w' hC => by obtain ⟨q0, q1⟩ := (t1.below hC t1.lt).cells; go_simp) ?_
  simp only [Act.put, List.setIfInBounds_toArray, List.set_cons_zero, List.set_cons_succ]
  refine qb_run (.bool true) (by kernel_rfl) (fun w' hC => by go_simp) ?_
  simp only [Act.put, List.setIfInBounds_toArray, List.set_cons_zero, List.set_cons_succ]
  refine qb_run (.bool true) (by kernel_rfl) (fun w' hC => by go_simp) ?_
  simp only [Act.put, List.setIfInBounds_toArray, List.set_cons_zero, List.set_cons_succ]
  refine qb_mv (.bool true) _ (.inl rfl) (by kernel_rfl) (by rfl) ?_
  simp only [Act.put, List.setIfInBounds_toArray, List.set_cons_zero, List.set_cons_succ]
  refine qb_run (vI x) (by kernel_rfl) (fun w' hC => by obtain ⟨q0, q1⟩ := (t1.below hC t1.lt).cells; go_simp) ?_
  simp only [Act.put, List.setIfInBounds_toArray, List.set_cons_zero, List.set_cons_succ]
  refine qb_run (vI x) (by kernel_rfl) (fun w' hC => by obtain ⟨q0, q1⟩ := (t1.below hC t1.lt).cells; go_simp) ?_
  simp only [Act.put, List.setIfInBounds_toArray, List.set_cons_zero, List.set_cons_succ]
  refine qb_call (vI zero) 15 #[vI x, vI x] (by kernel_rfl) (fun w' => by go_simp) (fun w' hC => (S2 w').out.mono (fun e w'' h => ⟨h.1, hC.step h.2⟩)) ?_
  simp only [Act.put, List.setIfInBounds_toArray, List.set_cons_zero, List.set_cons_succ]
  refine qb_run (vI zero) (by kernel_rfl) (fun w' hC => by obtain ⟨q0, q1⟩ := (t4.below hC t4.lt).cells; go_simp) ?_
  simp only [Act.put, List.setIfInBounds_toArray, List.set_cons_zero, List.set_cons_succ]
  refine qb_run (.bool true) (by kernel_rfl) (fun w' hC => by go_simp) ?_
  simp only [Act.put, List.setIfInBounds_toArray, List.set_cons_zero, List.set_cons_succ]
  refine qb_run (.bool true) (by kernel_rfl) (fun w' hC => by go_simp) ?_
  simp only [Act.put, List.setIfInBounds_toArray, List.set_cons_zero, List.set_cons_succ]
  refine qb_mv (.bool true) _ (.inr rfl) (by kernel_rfl) (by rfl) ?_
  simp only [Act.put, List.setIfInBounds_toArray, List.set_cons_zero, List.set_cons_succ]
  refine wpQuiet_nil (fun W10 hC => ?_)
  have b10 := hbl.trans (Below.mono hC hbl.size)
  go_wp2_with fail
  go_ret
  exact ⟨rfl, b10⟩

set_option maxHeartbeats 1000000 in
set_option maxRecDepth 100000 in
theorem Ring_no (a b c : Bool) (r s u : ByteArray) (w : World) (ht : HasTab w) (hr : (([(a, r), (b, s), (c, u)].all fun p => vld p.1 p.2) && [(a, r), (b, s), (c, u)].all fun p => decide (p.2.size ≤ 60)) = false) : Calls Tryd.prog 3 #[.agg #[.bool a, .string r], .agg #[.bool b, .string s], .agg #[.bool c, .string u]] w (RetB true w) := by
  have h0 := Box3s.new w 23 (.bool a) (.string r) (.bool b) (.string s) (.bool c) (.string u)
  have HAW := fun W h => Lib.hid (awake_any W h)
  have HRI := fun (A : Option Addr) n W h => Lib.hid (right_any A n [(a, r), (b, s), (c, u)] W h (by simp))
  rw [hr] at HRI
  clear hr
  have HT := Lib.hid ht
  clear ht
  go_enter Tryd.func3, Tryd.ntmps3
  go_wp2_with fail
  obtain ⟨W0, hW0⟩ : ∃ W0, W0 = (((w.alloc (.cells #[.bool a, .string r] 23)).alloc (.cells #[.bool b, .string s] 23)).alloc (.cells #[.bool c, .string u] 23)) := ⟨_, rfl⟩
  rw [← hW0] at h0 ⊢
  clear hW0
  refine (HAW W0 (HT.out.below h0.b)).out.mono ?_
  rintro e W1 ⟨rfl, hb⟩
  have h1 := h0.below hb
  clear hb h0 HAW
  obtain ⟨x0, x1⟩ := h1.x.cells
  obtain ⟨y0, y1⟩ := h1.y.cells
  obtain ⟨z0, z1⟩ := h1.z.cells
  go_wp2_with fail
  have hri := rdi_three W1 23 a b c r s u
  have h2 := h1.alloc (.cells #[.bool a, .string r, .bool b, .string s, .bool c, .string u] 23)
  generalize W1.heap.size = n1 at hri ⊢
  generalize World.alloc W1 _ = W2 at hri h2 ⊢
  clear h1 x0 x1 y0 y1 z0 z1
  refine (HRI _ 3 W2 hri).out.mono ?_
  rintro e W3 ⟨rfl, hb⟩
  have h3 := h2.below hb
  clear hb h2 hri HRI
  go_wp2_with fail
  go_ret
  exact ⟨rfl, h3.b⟩

theorem Ring_all (a b c : Bool) (r s u : ByteArray) (w : World) (ht : HasTab w) : Calls Tryd.prog 3 #[.agg #[.bool a, .string r], .agg #[.bool b, .string s], .agg #[.bool c, .string u]] w (RetB true w) := by
  cases hr : (([(a, r), (b, s), (c, u)].all fun p => vld p.1 p.2) && [(a, r), (b, s), (c, u)].all fun p => decide (p.2.size ≤ 60)) with
  | false => exact Ring_no a b c r s u w ht hr
  | true =>
    rw [Bool.and_eq_true] at hr
    obtain ⟨h1, h2⟩ := hr
    have h1' := h1
    have h2' := h2
    simp only [List.all_cons, List.all_nil, Bool.and_true, Bool.and_eq_true, decide_eq_true_eq] at h1' h2'
    obtain ⟨v1, v2, v3⟩ := h1'
    obtain ⟨f1, f2, f3⟩ := h2'
    obtain ⟨e1, e2⟩ := vld_form v1
    obtain ⟨e3, e4⟩ := vld_form v2
    obtain ⟨e5, e6⟩ := vld_form v3
    generalize ival a r = x at *
    generalize ival b s = y at *
    generalize ival c u = z at *
    subst e1 e2 e3 e4 e5 e6
    exact Ring_yes x y z w ht ((Bd.of_size x).mono f1) ((Bd.of_size y).mono f2) ((Bd.of_size z).mono f3) ⟨h1, h2⟩
end Go.Proofs.YtboolbcckfldaaaDoor
