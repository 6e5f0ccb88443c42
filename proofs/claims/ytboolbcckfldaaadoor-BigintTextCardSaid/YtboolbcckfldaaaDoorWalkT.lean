import Derived.Test.YtboolbcckfldaaaDoorWalkS
namespace Go.Proofs.YtboolbcckfldaaaDoor
open Go.RowKit
set_option linter.unusedVariables false
set_option linter.unusedSimpArgs false

set_option maxHeartbeats 1000000 in
set_option maxRecDepth 100000 in
theorem Pow_bad (n : Bool) (s : ByteArray) (k : Int) (w : World) (h : vld n s = false) : Calls Tryd.prog 17 #[.agg #[.bool n, .string s], .int .i64 k] w (RetIE 0 1 w) := by
  have h0 := Box2.new w 23 (.bool n) (.string s)
  go_enter Tryd.func17, Tryd.ntmps17
  go_wp2_with fail
  obtain ⟨W0, hW0⟩ : ∃ W0, W0 = ((w.alloc (.cells #[.bool n, .string s] 23)).alloc (.cells #[.bool false, .string ⟨#[]⟩] 23)) := ⟨_, rfl⟩
  rw [← hW0] at h0 ⊢
  clear hW0
  refine (Valid_no n s W0 h).mono ?_
  rintro e W1 ⟨rfl, hb⟩
  have h1 := h0.below hb
  clear hb h0
  obtain ⟨z0, z1⟩ := h1.z.cells
  obtain ⟨c0, c1⟩ := h1.z.free
  go_wp2_with fail
  obtain ⟨r0, r1, hbl⟩ := h1.ret (.bool false) (.string ⟨#[]⟩)
  exact bodyPost_ret (v := .tuple #[vI 0, .int .i64 1]) (by rw [vI_zero]; simp [results, Tryd.results17, go_sem, r0, r1]) rfl ⟨rfl, hbl⟩
set_option maxHeartbeats 1000000 in
set_option maxRecDepth 100000 in
theorem Pow_range (n : Bool) (s : ByteArray) (k : Int) (w : World) (h : vld n s = true) (hk : k < 0 ∨ 100 < k) : Calls Tryd.prog 17 #[.agg #[.bool n, .string s], .int .i64 k] w (RetIE 0 2 w) := by
  have h0 := Box2.new w 23 (.bool n) (.string s)
  have hk' : (decide (k < 0) || decide (100 < k)) = true := by simpa using hk
  go_enter Tryd.func17, Tryd.ntmps17
  go_wp2_with fail
  obtain ⟨W0, hW0⟩ : ∃ W0, W0 = ((w.alloc (.cells #[.bool n, .string s] 23)).alloc (.cells #[.bool false, .string ⟨#[]⟩] 23)) := ⟨_, rfl⟩
  rw [← hW0] at h0 ⊢
  clear hW0
  refine (Valid_ok n s W0 h).mono ?_
  rintro e W1 ⟨rfl, hb⟩
  have h1 := h0.below hb
  clear hb h0
  obtain ⟨z0, z1⟩ := h1.z.cells
  obtain ⟨c0, c1⟩ := h1.z.free
  go_wp2_with fail
  all_goals
    obtain ⟨r0, r1, hbl⟩ := h1.ret (.bool false) (.string ⟨#[]⟩)
    exact bodyPost_ret (v := .tuple #[vI 0, .int .i64 2]) (by rw [vI_zero]; simp [results, Tryd.results17, go_sem, r0, r1]) rfl ⟨rfl, hbl⟩

set_option maxHeartbeats 1000000 in
set_option maxRecDepth 100000 in
theorem Sqrt_bad (n : Bool) (s : ByteArray) (w : World) (h : vld n s = false) : Calls Tryd.prog 18 #[.agg #[.bool n, .string s]] w (RetIE 0 1 w) := by
  have h0 := Box2.new w 23 (.bool (n)) (.string (s))
  skip
  go_enter Tryd.func18, Tryd.ntmps18
  go_wp2_with fail
  obtain ⟨W0, hW0⟩ : ∃ W0, W0 = ((w.alloc (.cells #[.bool (n), .string (s)] 23)).alloc (.cells #[.bool false, .string ⟨#[]⟩] 23)) := ⟨_, rfl⟩
  rw [← hW0] at h0 ⊢
  clear hW0
  refine (Valid_no n s W0 h).mono ?_
  rintro e W1 ⟨rfl, hb⟩
  have h1 := h0.below hb
  clear hb h0
  obtain ⟨x0, x1⟩ := h1.x.cells
  skip
  obtain ⟨z0, z1⟩ := h1.z.cells
  obtain ⟨c0, c1⟩ := h1.z.free
  go_wp2_with fail
  obtain ⟨r0, r1, hbl⟩ := h1.ret (.bool false) (.string ⟨#[]⟩)
  exact bodyPost_ret (v := .tuple #[vI 0, .int .i64 1]) (by rw [vI_zero]; simp [results, Tryd.results18, go_sem, r0, r1]) rfl ⟨rfl, hbl⟩
set_option maxHeartbeats 1000000 in
set_option maxRecDepth 100000 in
theorem Sqrt_neg (x : Int) (w : World) (h : x < 0) : Calls Tryd.prog 18 #[vI x] w (RetIE 0 2 w) := by
  have h0 := Box2.new w 23 (.bool (sg x)) (.string (mg x))
  have hs : Hid (sg x = true) := Lib.hid (by unfold sg; simpa using h)
  go_enter Tryd.func18, Tryd.ntmps18
  go_wp2_with fail
  obtain ⟨W0, hW0⟩ : ∃ W0, W0 = ((w.alloc (.cells #[.bool (sg x), .string (mg x)] 23)).alloc (.cells #[.bool false, .string ⟨#[]⟩] 23)) := ⟨_, rfl⟩
  rw [← hW0] at h0 ⊢
  clear hW0
  refine (Valid_yes x W0).mono ?_
  rintro e W1 ⟨rfl, hb⟩
  have h1 := h0.below hb
  clear hb h0
  obtain ⟨x0, x1⟩ := h1.x.cells
  rw [hs.out] at x0
  obtain ⟨z0, z1⟩ := h1.z.cells
  obtain ⟨c0, c1⟩ := h1.z.free
  go_wp2_with fail
  obtain ⟨r0, r1, hbl⟩ := h1.ret (.bool false) (.string ⟨#[]⟩)
  exact bodyPost_ret (v := .tuple #[vI 0, .int .i64 2]) (by rw [vI_zero]; simp [results, Tryd.results18, go_sem, r0, r1]) rfl ⟨rfl, hbl⟩
set_option maxHeartbeats 1000000 in
set_option maxRecDepth 100000 in
theorem Sqrt_zero (w : World) : Calls Tryd.prog 18 #[vI 0] w (RetIE 0 0 w) := by
  have h0 := Box2.new w 23 (.bool (sg 0)) (.string (mg 0))
  obtain ⟨e1, e2⟩ := mg_empty (z := 0) rfl
  go_enter Tryd.func18, Tryd.ntmps18
  go_wp2_with fail
  obtain ⟨W0, hW0⟩ : ∃ W0, W0 = ((w.alloc (.cells #[.bool (sg 0), .string (mg 0)] 23)).alloc (.cells #[.bool false, .string ⟨#[]⟩] 23)) := ⟨_, rfl⟩
  rw [← hW0] at h0 ⊢
  clear hW0
  refine (Valid_yes 0 W0).mono ?_
  rintro e W1 ⟨rfl, hb⟩
  have h1 := h0.below hb
  clear hb h0
  obtain ⟨x0, x1⟩ := h1.x.cells
  rw [show sg 0 = false from rfl] at x0
  obtain ⟨z0, z1⟩ := h1.z.cells
  obtain ⟨c0, c1⟩ := h1.z.free
  go_wp2_with fail
  obtain ⟨r0, r1, hbl⟩ := h1.ret (.bool false) (.string (mg 0))
  exact bodyPost_ret (v := .tuple #[vI 0, .int .i64 0]) (by unfold vI; rw [show sg 0 = false from rfl]; simp [results, Tryd.results18, go_sem, r0, r1]) rfl ⟨rfl, hbl⟩

theorem Box4.fin {w W : World} {t : TypeId} {a b c d q r u v : Value} (h : Box4 w W t a b c d q r u v) (q' r' u' v' : Value) :
    ((((W.setCell ⟨w.heap.size + 1 + 1, 0, none⟩ q').setCell ⟨w.heap.size + 1 + 1, 1, none⟩ r').setCell ⟨w.heap.size + 1 + 1 + 1, 0, none⟩ u').setCell ⟨w.heap.size + 1 + 1 + 1, 1, none⟩ v').cell? ⟨w.heap.size + 1 + 1, 0, none⟩ = some q' ∧
    ((((W.setCell ⟨w.heap.size + 1 + 1, 0, none⟩ q').setCell ⟨w.heap.size + 1 + 1, 1, none⟩ r').setCell ⟨w.heap.size + 1 + 1 + 1, 0, none⟩ u').setCell ⟨w.heap.size + 1 + 1 + 1, 1, none⟩ v').cell? ⟨w.heap.size + 1 + 1, 1, none⟩ = some r' ∧
    ((((W.setCell ⟨w.heap.size + 1 + 1, 0, none⟩ q').setCell ⟨w.heap.size + 1 + 1, 1, none⟩ r').setCell ⟨w.heap.size + 1 + 1 + 1, 0, none⟩ u').setCell ⟨w.heap.size + 1 + 1 + 1, 1, none⟩ v').cell? ⟨w.heap.size + 1 + 1 + 1, 0, none⟩ = some u' ∧
    ((((W.setCell ⟨w.heap.size + 1 + 1, 0, none⟩ q').setCell ⟨w.heap.size + 1 + 1, 1, none⟩ r').setCell ⟨w.heap.size + 1 + 1 + 1, 0, none⟩ u').setCell ⟨w.heap.size + 1 + 1 + 1, 1, none⟩ v').cell? ⟨w.heap.size + 1 + 1 + 1, 1, none⟩ = some v' ∧
    Below w.heap.size w ((((W.setCell ⟨w.heap.size + 1 + 1, 0, none⟩ q').setCell ⟨w.heap.size + 1 + 1, 1, none⟩ r').setCell ⟨w.heap.size + 1 + 1 + 1, 0, none⟩ u').setCell ⟨w.heap.size + 1 + 1 + 1, 1, none⟩ v') :=
  have k := (h.setq q' r').setr u' v'
  ⟨k.z.cells.1, k.z.cells.2, k.u.cells.1, k.u.cells.2, k.b⟩
/-- two integers and an error number -/
def RetIIE (x y : Int) (n : Int) (w : World) (e : Ending) (w' : World) : Prop := e = .returned (.tuple #[vI x, vI y, .int .i64 n]) ∧ Below w.heap.size w w'
set_option maxHeartbeats 1000000 in
set_option maxRecDepth 100000 in
theorem DivMod_bad1 (n m : Bool) (s t : ByteArray) (w : World) (h : vld n s = false) : Calls Tryd.prog 28 #[.agg #[.bool n, .string s], .agg #[.bool m, .string t]] w (RetIIE 0 0 1 w) := by
  have h0 := Box4.new w 23 (.bool n) (.string s) (.bool (m)) (.string (t)) (.bool false) (.string ⟨#[]⟩) (.bool false) (.string ⟨#[]⟩)
  skip
  go_enter Tryd.func28, Tryd.ntmps28
  go_wp2_with fail
  obtain ⟨W0, hW0⟩ : ∃ W0, W0 = ((((w.alloc (.cells #[.bool n, .string s] 23)).alloc (.cells #[.bool (m), .string (t)] 23)).alloc (.cells #[.bool false, .string ⟨#[]⟩] 23)).alloc (.cells #[.bool false, .string ⟨#[]⟩] 23)) := ⟨_, rfl⟩
  rw [← hW0] at h0 ⊢
  clear hW0
  refine (Valid_no n s W0 h).mono ?_
  rintro e W1 ⟨rfl, hb⟩
  have h1 := h0.below hb
  clear hb h0
  obtain ⟨x0, x1⟩ := h1.x.cells
  obtain ⟨y0, y1⟩ := h1.y.cells
  skip
  obtain ⟨z0, z1⟩ := h1.z.cells
  obtain ⟨f0, f1⟩ := h1.z.free
  obtain ⟨u0, u1⟩ := h1.u.cells
  obtain ⟨g0, g1⟩ := h1.u.free
  go_wp2_with fail
  obtain ⟨r0, r1, r2, r3, hbl⟩ := h1.fin (.bool false) (.string ⟨#[]⟩) (.bool false) (.string ⟨#[]⟩)
  exact bodyPost_ret (v := .tuple #[vI 0, vI 0, .int .i64 1]) (by rw [vI_zero]; simp [results, Tryd.results28, go_sem, r0, r1, r2, r3]) rfl ⟨rfl, hbl⟩
set_option maxHeartbeats 1000000 in
set_option maxRecDepth 100000 in
theorem DivMod_bad2 (n m : Bool) (s t : ByteArray) (w : World) (h : vld n s = true) (h' : vld m t = false) : Calls Tryd.prog 28 #[.agg #[.bool n, .string s], .agg #[.bool m, .string t]] w (RetIIE 0 0 1 w) := by
  have h0 := Box4.new w 23 (.bool n) (.string s) (.bool (m)) (.string (t)) (.bool false) (.string ⟨#[]⟩) (.bool false) (.string ⟨#[]⟩)
  skip
  go_enter Tryd.func28, Tryd.ntmps28
  go_wp2_with fail
  obtain ⟨W0, hW0⟩ : ∃ W0, W0 = ((((w.alloc (.cells #[.bool n, .string s] 23)).alloc (.cells #[.bool (m), .string (t)] 23)).alloc (.cells #[.bool false, .string ⟨#[]⟩] 23)).alloc (.cells #[.bool false, .string ⟨#[]⟩] 23)) := ⟨_, rfl⟩
  rw [← hW0] at h0 ⊢
  clear hW0
  refine (Valid_ok n s W0 h).mono ?_
  rintro e W1 ⟨rfl, hb⟩
  have h1 := h0.below hb
  clear hb h0
  obtain ⟨x0, x1⟩ := h1.x.cells
  obtain ⟨y0, y1⟩ := h1.y.cells
  go_wp2_with fail
  refine (Valid_no m t W1 h').mono ?_
  rintro e W2 ⟨rfl, hb⟩
  have h2 := h1.below hb
  clear hb h1 x0 x1 y0 y1
  obtain ⟨x0, x1⟩ := h2.x.cells
  obtain ⟨y0, y1⟩ := h2.y.cells
  have h1 := h2
  obtain ⟨z0, z1⟩ := h1.z.cells
  obtain ⟨f0, f1⟩ := h1.z.free
  obtain ⟨u0, u1⟩ := h1.u.cells
  obtain ⟨g0, g1⟩ := h1.u.free
  go_wp2_with fail
  obtain ⟨r0, r1, r2, r3, hbl⟩ := h1.fin (.bool false) (.string ⟨#[]⟩) (.bool false) (.string ⟨#[]⟩)
  exact bodyPost_ret (v := .tuple #[vI 0, vI 0, .int .i64 1]) (by rw [vI_zero]; simp [results, Tryd.results28, go_sem, r0, r1, r2, r3]) rfl ⟨rfl, hbl⟩
set_option maxHeartbeats 1000000 in
set_option maxRecDepth 100000 in
theorem DivMod_div0 (n : Bool) (s : ByteArray) (w : World) (h : vld n s = true) : Calls Tryd.prog 28 #[.agg #[.bool n, .string s], vI 0] w (RetIIE 0 0 10 w) := by
  have h0 := Box4.new w 23 (.bool n) (.string s) (.bool (sg 0)) (.string (mg 0)) (.bool false) (.string ⟨#[]⟩) (.bool false) (.string ⟨#[]⟩)
  obtain ⟨e1, e2⟩ := mg_empty (z := 0) rfl
  go_enter Tryd.func28, Tryd.ntmps28
  go_wp2_with fail
  obtain ⟨W0, hW0⟩ : ∃ W0, W0 = ((((w.alloc (.cells #[.bool n, .string s] 23)).alloc (.cells #[.bool (sg 0), .string (mg 0)] 23)).alloc (.cells #[.bool false, .string ⟨#[]⟩] 23)).alloc (.cells #[.bool false, .string ⟨#[]⟩] 23)) := ⟨_, rfl⟩
  rw [← hW0] at h0 ⊢
  clear hW0
  refine (Valid_ok n s W0 h).mono ?_
  rintro e W1 ⟨rfl, hb⟩
  have h1 := h0.below hb
  clear hb h0
  obtain ⟨x0, x1⟩ := h1.x.cells
  obtain ⟨y0, y1⟩ := h1.y.cells
  go_wp2_with fail
  refine (Valid_yes 0 W1).mono ?_
  rintro e W2 ⟨rfl, hb⟩
  have h2 := h1.below hb
  clear hb h1 x0 x1 y0 y1
  obtain ⟨x0, x1⟩ := h2.x.cells
  obtain ⟨y0, y1⟩ := h2.y.cells
  have h1 := h2
  obtain ⟨z0, z1⟩ := h1.z.cells
  obtain ⟨f0, f1⟩ := h1.z.free
  obtain ⟨u0, u1⟩ := h1.u.cells
  obtain ⟨g0, g1⟩ := h1.u.free
  go_wp2_with fail
  obtain ⟨r0, r1, r2, r3, hbl⟩ := h1.fin (.bool false) (.string ⟨#[]⟩) (.bool false) (.string ⟨#[]⟩)
  exact bodyPost_ret (v := .tuple #[vI 0, vI 0, .int .i64 10]) (by rw [vI_zero]; simp [results, Tryd.results28, go_sem, r0, r1, r2, r3]) rfl ⟨rfl, hbl⟩
end Go.Proofs.YtboolbcckfldaaaDoor
