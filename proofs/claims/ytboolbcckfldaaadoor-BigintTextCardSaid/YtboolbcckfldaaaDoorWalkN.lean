/- Integers: products. -/
import Derived.Test.YtboolbcckfldaaaDoorWalkM
namespace Go.Proofs.YtboolbcckfldaaaDoor
open Go.RowKit
set_option linter.unusedVariables false
set_option linter.unusedSimpArgs false

/-- the two arguments and the result of a call, in memory -/
structure Box3 (w W : World) (t : TypeId) (x y : Int) : Prop where
  x : Two W w.heap.size t (.bool (sg x)) (.string (mg x))
  y : Two W (w.heap.size + 1) t (.bool (sg y)) (.string (mg y))
  z : Two W (w.heap.size + 1 + 1) t (.bool false) (.string ⟨#[]⟩)
  b : Below w.heap.size w W
  s : w.heap.size + 3 ≤ W.heap.size
theorem Box3.new (w : World) (t : TypeId) (x y : Int) : Box3 w (((w.alloc (.cells #[.bool (sg x), .string (mg x)] t)).alloc (.cells #[.bool (sg y), .string (mg y)] t)).alloc (.cells #[.bool false, .string ⟨#[]⟩] t)) t x y := by
  have h1 := Two.new w t (.bool (sg x)) (.string (mg x))
  have h2 := Two.new (w.alloc (.cells #[.bool (sg x), .string (mg x)] t)) t (.bool (sg y)) (.string (mg y))
  have h3 := Two.new ((w.alloc (.cells #[.bool (sg x), .string (mg x)] t)).alloc (.cells #[.bool (sg y), .string (mg y)] t)) t (.bool false) (.string ⟨#[]⟩)
  refine ⟨(h1.alloc _).alloc _, ?_, ?_, (((Below.refl _ _).alloc (Nat.le_refl _) _).alloc (by simp) _).alloc (by simp; omega) _, by simp⟩
  · have := h2.alloc (.cells #[.bool false, .string ⟨#[]⟩] t); simpa using this
  · simpa using h3
theorem Box3.below {w W W' : World} {t : TypeId} {x y : Int} (h : Box3 w W t x y) (hb : Below W.heap.size W W') : Box3 w W' t x y :=
  ⟨h.x.below hb h.x.lt, h.y.below hb h.y.lt, h.z.below hb h.z.lt, h.b.trans (hb.mono (by have := h.s; omega)), by have := hb.size; have := h.s; omega⟩

theorem Box3.drewN {w W : World} {t : TypeId} {x y : Int} (h : Box3 w W t x y) (n : Nat) : Box3 w (W.drewN n) t x y := ⟨h.x, h.y, h.z, below_drewN h.b n, h.s⟩
theorem Box3.seen {w W : World} {t : TypeId} {x y : Int} (h : Box3 w W t x y) : W.cell? ⟨w.heap.size, 0, none⟩ = some (.bool (sg x)) ∧ W.cell? ⟨w.heap.size, 1, none⟩ = some (.string (mg x)) ∧ W.cell? ⟨w.heap.size + 1, 0, none⟩ = some (.bool (sg y)) ∧ W.cell? ⟨w.heap.size + 1, 1, none⟩ = some (.string (mg y)) :=
  ⟨h.x.cells.1, h.x.cells.2, h.y.cells.1, h.y.cells.2⟩
theorem Box3.seen_set {w W : World} {t : TypeId} {x y : Int} (h : Box3 w W t x y) (u v : Value) : ((W.setCell ⟨w.heap.size + 1 + 1, 0, none⟩ u).setCell ⟨w.heap.size + 1 + 1, 1, none⟩ v).cell? ⟨w.heap.size, 0, none⟩ = some (.bool (sg x)) ∧ ((W.setCell ⟨w.heap.size + 1 + 1, 0, none⟩ u).setCell ⟨w.heap.size + 1 + 1, 1, none⟩ v).cell? ⟨w.heap.size, 1, none⟩ = some (.string (mg x)) ∧
    ((W.setCell ⟨w.heap.size + 1 + 1, 0, none⟩ u).setCell ⟨w.heap.size + 1 + 1, 1, none⟩ v).cell? ⟨w.heap.size + 1, 0, none⟩ = some (.bool (sg y)) ∧ ((W.setCell ⟨w.heap.size + 1 + 1, 0, none⟩ u).setCell ⟨w.heap.size + 1 + 1, 1, none⟩ v).cell? ⟨w.heap.size + 1, 1, none⟩ = some (.string (mg y)) := by
  have hx := (h.x.far (p := ⟨w.heap.size + 1 + 1, 0, none⟩) (by simp; omega) u).far (p := ⟨w.heap.size + 1 + 1, 1, none⟩) (by simp; omega) v
  have hy := (h.y.far (p := ⟨w.heap.size + 1 + 1, 0, none⟩) (by simp) u).far (p := ⟨w.heap.size + 1 + 1, 1, none⟩) (by simp) v
  exact ⟨hx.cells.1, hx.cells.2, hy.cells.1, hy.cells.2⟩
theorem Box3.ret {w W : World} {t : TypeId} {x y : Int} (h : Box3 w W t x y) (u v : Value) : (W.setCell ⟨w.heap.size + 1 + 1, 0, none⟩ u).cell? ⟨w.heap.size + 1 + 1, 0, none⟩ = some u ∧ ((W.setCell ⟨w.heap.size + 1 + 1, 0, none⟩ u).setCell ⟨w.heap.size + 1 + 1, 1, none⟩ v).cell? ⟨w.heap.size + 1 + 1, 1, none⟩ = some v ∧
    Below w.heap.size w ((W.setCell ⟨w.heap.size + 1 + 1, 0, none⟩ u).setCell ⟨w.heap.size + 1 + 1, 1, none⟩ v) :=
  ⟨(h.z.read u v).1, (h.z.read u v).2, (h.b.setCell (by simp; omega) _).setCell (by simp; omega) _⟩

theorem Valid_yes (z : Int) (w : World) : Calls Tryd.prog 36 #[vI z] w (RetB true w) := by
  have := Valid_any (sg z) (mg z) w
  rwa [vld_sg] at this

theorem of_mg (z : Int) (w : World) (h : Bd 1900000000 z) : Calls Tryd.prog 39 #[.string (mg z)] w (RetD .u32 4294967296 z.natAbs w) := by
  have := of_any (mg z) w (by have := h.size; omega)
  rwa [sv_mg] at this

theorem sgnd_mul (x y : Int) : sgnd (!(sg x == sg y)) (x.natAbs * y.natAbs) = x * y := by
  unfold sgnd sg
  rw [← Int.natAbs_mul]
  by_cases hx : x < 0 <;> by_cases hy : y < 0
  · have := Int.mul_nonneg_of_nonpos_of_nonpos (Int.le_of_lt hx) (Int.le_of_lt hy)
    simp [hx, hy]; omega
  · have := Int.mul_nonpos_of_nonpos_of_nonneg (Int.le_of_lt hx) (show 0 ≤ y by omega)
    simp [hx, hy]; omega
  · have := Int.mul_nonpos_of_nonneg_of_nonpos (show 0 ≤ x by omega) (Int.le_of_lt hy)
    simp [hx, hy]; omega
  · have := Int.mul_nonneg (show 0 ≤ x by omega) (show 0 ≤ y by omega)
    simp [hx, hy]; omega

set_option maxHeartbeats 2000000 in
set_option maxRecDepth 100000 in
theorem Mul_any (x y : Int) (w : World) (hx : Bd 400000000 x) (hy : Bd 400000000 y) : Calls Tryd.prog 14 #[vI x, vI y] w (RetI (x * y) w) := by
  have h0 := Box3.new w 23 x y
  have lx := hx.digs
  have ly := hy.digs
  have lz := (hx.mul hy).digs
  rw [Int.natAbs_mul] at lz
  have LZ : (digs 4294967296 (x.natAbs * y.natAbs)).length ≤ 1000000000 := by omega
  have HX := fun W => Lib.hid (of_mg x W (hx.mono (by omega)))
  have HY := fun W => Lib.hid (of_mg y W (hy.mono (by omega)))
  clear hx hy lz
  go_enter Tryd.func14, Tryd.ntmps14
  go_wp2_with fail
  obtain ⟨W0, hW0⟩ : ∃ W0, W0 = (((w.alloc (.cells #[.bool (sg x), .string (mg x)] 23)).alloc (.cells #[.bool (sg y), .string (mg y)] 23)).alloc (.cells #[.bool false, .string ⟨#[]⟩] 23)) := ⟨_, rfl⟩
  rw [← hW0] at h0 ⊢
  clear hW0
  refine (Valid_yes x W0).mono ?_
  rintro e W1 ⟨rfl, hb⟩
  have h1 := h0.below hb
  obtain ⟨y0, y1⟩ := h1.y.cells
  clear hb h0
  go_wp2_with fail
  refine (Valid_yes y W1).mono ?_
  rintro e W2 ⟨rfl, hb⟩
  have h2 := h1.below hb
  clear hb h1 y0 y1
  obtain ⟨x0, x1⟩ := h2.x.cells
  obtain ⟨y0, y1⟩ := h2.y.cells
  go_wp2_with fail
  have hd : Box3 w W2.drew 23 x y := h2.drewN 1
  go_region_held3 (fun W => W.cell? ⟨w.heap.size, 0, none⟩ = some (.bool (sg x)) ∧ W.cell? ⟨w.heap.size, 1, none⟩ = some (.string (mg x)) ∧ W.cell? ⟨w.heap.size + 1, 0, none⟩ = some (.bool (sg y)) ∧ W.cell? ⟨w.heap.size + 1, 1, none⟩ = some (.string (mg y)))
    (first | exact Box3.seen (by assumption) | exact Box3.seen_set (by assumption) _ _)
    (first
      | (go_at_call_of 39 (Value.string (mg x)); refine (HX _).out.mono ?_; rintro e W' ⟨A, c, rfl, hc, hrx, hb⟩; have hS := Box3.below (by assumption) hb)
      | (go_at_call_of 39 (Value.string (mg y)); refine (HY _).out.mono ?_; rintro e W'' ⟨B, d, rfl, hd', hry, hb2⟩; have hS := Box3.below (by assumption) hb2; have hrx2 := hrx.below hb2)
      | (go_at_call 43; refine (mul_any A B c d _ _ _ hrx2 hry (by omega) (by omega)).mono ?_; rintro e W3 ⟨C, k, rfl, hk, hrz, hb3⟩; have hS := Box3.below (by assumption) hb3)
      | (go_at_call 38; refine (with_any C k _ _ _ hrz LZ).mono ?_; rintro e W4 ⟨rfl, hb4⟩; have hS := Box3.below (by assumption) hb4; obtain ⟨f0, f1⟩ := hS.z.free; obtain ⟨z0, z1⟩ := hS.z.cells))
  go_wp2_with fail
  rw [sgnd_mul]
  obtain ⟨r0, r1, r2⟩ := hS.ret (.bool (sg (x * y))) (.string (mg (x * y)))
  exact bodyPost_ret (v := vI (x * y)) (by simp [results, Tryd.results14, go_sem, r0, r1]) rfl ⟨rfl, r2⟩
end Go.Proofs.YtboolbcckfldaaaDoor
