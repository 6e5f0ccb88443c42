/- Integers: sums. -/
import Derived.Test.YtboolbcckfldaaaDoorWalkN
namespace Go.Proofs.YtboolbcckfldaaaDoor
open Go.RowKit
set_option linter.unusedVariables false
set_option linter.unusedSimpArgs false

theorem sgnd_same {x y : Int} (h : sg x = sg y) : sgnd (sg x) (x.natAbs + y.natAbs) = x + y := by
  unfold sgnd sg at *
  by_cases hx : x < 0 <;> by_cases hy : y < 0 <;> simp [hx, hy] at h ⊢ <;> omega
theorem sgnd_left {x y : Int} (h : sg x ≠ sg y) (hl : y.natAbs ≤ x.natAbs) : sgnd (sg x) (x.natAbs - y.natAbs) = x + y := by
  unfold sgnd sg at *
  by_cases hx : x < 0 <;> by_cases hy : y < 0 <;> simp [hx, hy] at h ⊢ <;> omega
theorem sgnd_right {x y : Int} (h : sg x ≠ sg y) (hl : x.natAbs < y.natAbs) : sgnd (sg y) (y.natAbs - x.natAbs) = x + y := by
  unfold sgnd sg at *
  by_cases hx : x < 0 <;> by_cases hy : y < 0 <;> simp [hx, hy] at h ⊢ <;> omega

theorem digs_len_add (x y : Int) : (digs 4294967296 (x.natAbs + y.natAbs)).length ≤ (digs 4294967296 x.natAbs).length + (digs 4294967296 y.natAbs).length + 1 := by
  apply digs_length_le (by decide)
  have h1 := lt_pow_digs (B := 4294967296) (by decide) x.natAbs
  have h2 := lt_pow_digs (B := 4294967296) (by decide) y.natAbs
  generalize (digs 4294967296 x.natAbs).length = a at *
  generalize (digs 4294967296 y.natAbs).length = b at *
  have h3 : 4294967296 ^ a ≤ 4294967296 ^ (a + b) := Nat.pow_le_pow_right (by decide) (by omega)
  have h4 : 4294967296 ^ b ≤ 4294967296 ^ (a + b) := Nat.pow_le_pow_right (by decide) (by omega)
  rw [Nat.pow_succ]; omega

set_option maxHeartbeats 2000000 in
set_option maxRecDepth 100000 in
theorem Add_same (x y : Int) (w : World) (hx : Bd 400000000 x) (hy : Bd 400000000 y) (hs : sg x = sg y) : Calls Tryd.prog 13 #[vI x, vI y] w (RetI (x + y) w) := by
  have h0 := Box3.new w 23 x y
  have lx := hx.digs
  have ly := hy.digs
  have HX := fun W => Lib.hid (of_mg x W (hx.mono (by omega)))
  have HY := fun W => Lib.hid (of_mg y W (hy.mono (by omega)))
  have hq : (sg x == sg y) = true := by simpa using hs
  have HV := Lib.hid (sgnd_same hs)
  have LZ : Hid ((digs 4294967296 (x.natAbs + y.natAbs)).length ≤ 1000000000) := Lib.hid (by have := (digs_len_add x y); omega)
  clear hx hy hs
  go_enter Tryd.func13, Tryd.ntmps13
  go_wp2_with fail
  obtain ⟨W0, hW0⟩ : ∃ W0, W0 = (((w.alloc (.cells #[.bool (sg x), .string (mg x)] 23)).alloc (.cells #[.bool (sg y), .string (mg y)] 23)).alloc (.cells #[.bool false, .string ⟨#[]⟩] 23)) := ⟨_, rfl⟩
  rw [← hW0] at h0 ⊢
  clear hW0
  refine (Valid_yes x W0).mono ?_
  rintro e W1 ⟨rfl, hb⟩
  have h1 := h0.below hb
  obtain ⟨y0, y1⟩ := h1.y.cells
  clear hb h0
  go_wp2_with fail
  refine (Valid_yes y W1).mono ?_
  rintro e W2 ⟨rfl, hb⟩
  have h2 := h1.below hb
  clear hb h1 y0 y1
  go_wp2_with fail
  have hd : Box3 w W2.drew 23 x y := h2.drewN 1
  go_region_held3 (fun W => W.cell? ⟨w.heap.size, 0, none⟩ = some (.bool (sg x)) ∧ W.cell? ⟨w.heap.size, 1, none⟩ = some (.string (mg x)) ∧ W.cell? ⟨w.heap.size + 1, 0, none⟩ = some (.bool (sg y)) ∧ W.cell? ⟨w.heap.size + 1, 1, none⟩ = some (.string (mg y)))
    (first | exact Box3.seen (by assumption) | exact Box3.seen_set (by assumption) _ _)
    (first
      | (go_at_call_of 39 (Value.string (mg x)); refine (HX _).out.mono ?_; rintro e W' ⟨A, c, rfl, hc1, hrx, hb⟩; have hS := Box3.below (by assumption) hb)
      | (go_at_call_of 39 (Value.string (mg y)); refine (HY _).out.mono ?_; rintro e W'' ⟨B, d, rfl, hc2, hry, hb2⟩; have hS2 := Box3.below (by assumption) hb2; have hrx2 := hrx.below hb2))
  obtain ⟨x0, x1⟩ := hS2.x.cells
  obtain ⟨y0, y1⟩ := hS2.y.cells
  go_wp2_with fail
  have hd : Box3 w (_ : World).drew 23 x y := hS2.drewN 1
  go_region_held3 (fun W => W.cell? ⟨w.heap.size, 0, none⟩ = some (.bool (sg x)) ∧ W.cell? ⟨w.heap.size, 1, none⟩ = some (.string (mg x)) ∧ W.cell? ⟨w.heap.size + 1, 0, none⟩ = some (.bool (sg y)) ∧ W.cell? ⟨w.heap.size + 1, 1, none⟩ = some (.string (mg y)))
    (first | exact Box3.seen (by assumption) | exact Box3.seen_set (by assumption) _ _)
    (first
      | (go_at_call 40; refine (add_any A B c d _ _ _ hrx2.drew hry.drew (by omega) (by omega) hc1 hc2).mono ?_; rintro e W5 ⟨C, k, rfl, hk, hrz, hb3⟩; have hS := Box3.below (by assumption) hb3)
      | (go_at_call 38; refine (with_any C k _ _ _ hrz LZ.out).mono ?_; rintro e W4 ⟨rfl, hb4⟩; have hS := Box3.below (by assumption) hb4; obtain ⟨f0, f1⟩ := hS.z.free; obtain ⟨z0, z1⟩ := hS.z.cells))
  go_wp2_with fail
  rw [HV.out]
  obtain ⟨r0, r1, r2⟩ := hS.ret (.bool (sg (x + y))) (.string (mg (x + y)))
  exact bodyPost_ret (v := vI (x + y)) (by simp [results, Tryd.results13, go_sem, r0, r1]) rfl ⟨rfl, r2⟩
set_option maxHeartbeats 2000000 in
set_option maxRecDepth 100000 in
theorem Add_left (x y : Int) (w : World) (hx : Bd 400000000 x) (hy : Bd 400000000 y) (hs : sg x ≠ sg y) (hc : y.natAbs ≤ x.natAbs) : Calls Tryd.prog 13 #[vI x, vI y] w (RetI (x + y) w) := by
  have h0 := Box3.new w 23 x y
  have lx := hx.digs
  have ly := hy.digs
  have HX := fun W => Lib.hid (of_mg x W (hx.mono (by omega)))
  have HY := fun W => Lib.hid (of_mg y W (hy.mono (by omega)))
  have hq : (sg x == sg y) = false := by simpa using hs
  have HV := Lib.hid (sgnd_left hs hc)
  have LZ : Hid ((digs 4294967296 (x.natAbs - y.natAbs)).length ≤ 1000000000) := Lib.hid (by have := digs_len_mono (B := 4294967296) (by decide) (show x.natAbs - y.natAbs ≤ x.natAbs by omega); omega)
  clear hx hy hs
  go_enter Tryd.func13, Tryd.ntmps13
  go_wp2_with fail
  obtain ⟨W0, hW0⟩ : ∃ W0, W0 = (((w.alloc (.cells #[.bool (sg x), .string (mg x)] 23)).alloc (.cells #[.bool (sg y), .string (mg y)] 23)).alloc (.cells #[.bool false, .string ⟨#[]⟩] 23)) := ⟨_, rfl⟩
  rw [← hW0] at h0 ⊢
  clear hW0
  refine (Valid_yes x W0).mono ?_
  rintro e W1 ⟨rfl, hb⟩
  have h1 := h0.below hb
  obtain ⟨y0, y1⟩ := h1.y.cells
  clear hb h0
  go_wp2_with fail
  refine (Valid_yes y W1).mono ?_
  rintro e W2 ⟨rfl, hb⟩
  have h2 := h1.below hb
  clear hb h1 y0 y1
  go_wp2_with fail
  have hd : Box3 w W2.drew 23 x y := h2.drewN 1
  go_region_held3 (fun W => W.cell? ⟨w.heap.size, 0, none⟩ = some (.bool (sg x)) ∧ W.cell? ⟨w.heap.size, 1, none⟩ = some (.string (mg x)) ∧ W.cell? ⟨w.heap.size + 1, 0, none⟩ = some (.bool (sg y)) ∧ W.cell? ⟨w.heap.size + 1, 1, none⟩ = some (.string (mg y)))
    (first | exact Box3.seen (by assumption) | exact Box3.seen_set (by assumption) _ _)
    (first
      | (go_at_call_of 39 (Value.string (mg x)); refine (HX _).out.mono ?_; rintro e W' ⟨A, c, rfl, hc1, hrx, hb⟩; have hS := Box3.below (by assumption) hb)
      | (go_at_call_of 39 (Value.string (mg y)); refine (HY _).out.mono ?_; rintro e W'' ⟨B, d, rfl, hc2, hry, hb2⟩; have hS2 := Box3.below (by assumption) hb2; have hrx2 := hrx.below hb2))
  obtain ⟨x0, x1⟩ := hS2.x.cells
  obtain ⟨y0, y1⟩ := hS2.y.cells
  go_wp2_with fail
  refine (compare_any A B _ _ _ _ _ hrx2 hry (by omega) (by omega)).mono ?_
  rintro e W3 ⟨r, rfl, hr1, hr2, n, rfl⟩
  have hr : 0 ≤ r := by omega
  clear hr1 hr2
  have hS3 := hS2.drewN n
  have hrx3 := hrx2.below (below_drewN (Below.refl _ _) n)
  have hry3 := hry.below (below_drewN (Below.refl _ _) n)
  clear hS2
  go_wp2_with fail
  have hd : Box3 w (_ : World).drew 23 x y := hS3.drewN 1
  go_region_held3 (fun W => W.cell? ⟨w.heap.size, 0, none⟩ = some (.bool (sg x)) ∧ W.cell? ⟨w.heap.size, 1, none⟩ = some (.string (mg x)) ∧ W.cell? ⟨w.heap.size + 1, 0, none⟩ = some (.bool (sg y)) ∧ W.cell? ⟨w.heap.size + 1, 1, none⟩ = some (.string (mg y)))
    (first | exact Box3.seen (by assumption) | exact Box3.seen_set (by assumption) _ _)
    (first
      | (go_at_call 42; refine (less_any A B c d _ _ _ hrx3.drew hry3.drew (by omega) hc).mono ?_; rintro e W5 ⟨C, k, rfl, hk, hrz, hb3⟩; have hS := Box3.below (by assumption) hb3)
      | (go_at_call 38; refine (with_any C k _ _ _ hrz LZ.out).mono ?_; rintro e W4 ⟨rfl, hb4⟩; have hS := Box3.below (by assumption) hb4; obtain ⟨f0, f1⟩ := hS.z.free; obtain ⟨z0, z1⟩ := hS.z.cells))
  go_wp2_with fail
  rw [HV.out]
  obtain ⟨r0, r1, r2⟩ := hS.ret (.bool (sg (x + y))) (.string (mg (x + y)))
  exact bodyPost_ret (v := vI (x + y)) (by simp [results, Tryd.results13, go_sem, r0, r1]) rfl ⟨rfl, r2⟩
set_option maxHeartbeats 2000000 in
set_option maxRecDepth 100000 in
theorem Add_right (x y : Int) (w : World) (hx : Bd 400000000 x) (hy : Bd 400000000 y) (hs : sg x ≠ sg y) (hc : x.natAbs < y.natAbs) : Calls Tryd.prog 13 #[vI x, vI y] w (RetI (x + y) w) := by
  have h0 := Box3.new w 23 x y
  have lx := hx.digs
  have ly := hy.digs
  have HX := fun W => Lib.hid (of_mg x W (hx.mono (by omega)))
  have HY := fun W => Lib.hid (of_mg y W (hy.mono (by omega)))
  have hq : (sg x == sg y) = false := by simpa using hs
  have HV := Lib.hid (sgnd_right hs hc)
  have LZ : Hid ((digs 4294967296 (y.natAbs - x.natAbs)).length ≤ 1000000000) := Lib.hid (by have := digs_len_mono (B := 4294967296) (by decide) (show y.natAbs - x.natAbs ≤ y.natAbs by omega); omega)
  clear hx hy hs
  go_enter Tryd.func13, Tryd.ntmps13
  go_wp2_with fail
  obtain ⟨W0, hW0⟩ : ∃ W0, W0 = (((w.alloc (.cells #[.bool (sg x), .string (mg x)] 23)).alloc (.cells #[.bool (sg y), .string (mg y)] 23)).alloc (.cells #[.bool false, .string ⟨#[]⟩] 23)) := ⟨_, rfl⟩
  rw [← hW0] at h0 ⊢
  clear hW0
  refine (Valid_yes x W0).mono ?_
  rintro e W1 ⟨rfl, hb⟩
  have h1 := h0.below hb
  obtain ⟨y0, y1⟩ := h1.y.cells
  clear hb h0
  go_wp2_with fail
  refine (Valid_yes y W1).mono ?_
  rintro e W2 ⟨rfl, hb⟩
  have h2 := h1.below hb
  clear hb h1 y0 y1
  go_wp2_with fail
  have hd : Box3 w W2.drew 23 x y := h2.drewN 1
  go_region_held3 (fun W => W.cell? ⟨w.heap.size, 0, none⟩ = some (.bool (sg x)) ∧ W.cell? ⟨w.heap.size, 1, none⟩ = some (.string (mg x)) ∧ W.cell? ⟨w.heap.size + 1, 0, none⟩ = some (.bool (sg y)) ∧ W.cell? ⟨w.heap.size + 1, 1, none⟩ = some (.string (mg y)))
    (first | exact Box3.seen (by assumption) | exact Box3.seen_set (by assumption) _ _)
    (first
      | (go_at_call_of 39 (Value.string (mg x)); refine (HX _).out.mono ?_; rintro e W' ⟨A, c, rfl, hc1, hrx, hb⟩; have hS := Box3.below (by assumption) hb)
      | (go_at_call_of 39 (Value.string (mg y)); refine (HY _).out.mono ?_; rintro e W'' ⟨B, d, rfl, hc2, hry, hb2⟩; have hS2 := Box3.below (by assumption) hb2; have hrx2 := hrx.below hb2))
  obtain ⟨x0, x1⟩ := hS2.x.cells
  obtain ⟨y0, y1⟩ := hS2.y.cells
  go_wp2_with fail
  refine (compare_any A B _ _ _ _ _ hrx2 hry (by omega) (by omega)).mono ?_
  rintro e W3 ⟨r, rfl, hr1, hr2, n, rfl⟩
  have hr : r < 0 := by omega
  clear hr1 hr2
  have hS3 := hS2.drewN n
  have hrx3 := hrx2.below (below_drewN (Below.refl _ _) n)
  have hry3 := hry.below (below_drewN (Below.refl _ _) n)
  clear hS2
  go_wp2_with fail
  have hd : Box3 w (_ : World).drew 23 x y := hS3.drewN 1
  go_region_held3 (fun W => W.cell? ⟨w.heap.size, 0, none⟩ = some (.bool (sg x)) ∧ W.cell? ⟨w.heap.size, 1, none⟩ = some (.string (mg x)) ∧ W.cell? ⟨w.heap.size + 1, 0, none⟩ = some (.bool (sg y)) ∧ W.cell? ⟨w.heap.size + 1, 1, none⟩ = some (.string (mg y)))
    (first | exact Box3.seen (by assumption) | exact Box3.seen_set (by assumption) _ _)
    (first
      | (go_at_call 42; refine (less_any B A d c _ _ _ hry3.drew hrx3.drew (by omega) (by omega)).mono ?_; rintro e W5 ⟨C, k, rfl, hk, hrz, hb3⟩; have hS := Box3.below (by assumption) hb3)
      | (go_at_call 38; refine (with_any C k _ _ _ hrz LZ.out).mono ?_; rintro e W4 ⟨rfl, hb4⟩; have hS := Box3.below (by assumption) hb4; obtain ⟨f0, f1⟩ := hS.z.free; obtain ⟨z0, z1⟩ := hS.z.cells))
  go_wp2_with fail
  rw [HV.out]
  obtain ⟨r0, r1, r2⟩ := hS.ret (.bool (sg (x + y))) (.string (mg (x + y)))
  exact bodyPost_ret (v := vI (x + y)) (by simp [results, Tryd.results13, go_sem, r0, r1]) rfl ⟨rfl, r2⟩
theorem Add_any (x y : Int) (w : World) (hx : Bd 400000000 x) (hy : Bd 400000000 y) : Calls Tryd.prog 13 #[vI x, vI y] w (RetI (x + y) w) := by
  by_cases hs : sg x = sg y
  · exact Add_same x y w hx hy hs
  · by_cases hc : y.natAbs ≤ x.natAbs
    · exact Add_left x y w hx hy hs hc
    · exact Add_right x y w hx hy hs (by omega)
end Go.Proofs.YtboolbcckfldaaaDoor
