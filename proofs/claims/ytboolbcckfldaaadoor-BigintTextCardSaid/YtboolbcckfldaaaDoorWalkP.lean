/- Integers: opposite, absolute value, sign, difference; and what is returned for forms that are not valid. -/
import Derived.Test.YtboolbcckfldaaaDoorWalkO
namespace Go.Proofs.YtboolbcckfldaaaDoor
open Go.RowKit
set_option linter.unusedVariables false
set_option linter.unusedSimpArgs false

/-- an argument and a result of a call, in memory -/
structure Box2 (w W : World) (t : TypeId) (a b : Value) : Prop where
  x : Two W w.heap.size t a b
  z : Two W (w.heap.size + 1) t (.bool false) (.string ⟨#[]⟩)
  b : Below w.heap.size w W
  s : w.heap.size + 2 ≤ W.heap.size
theorem Box2.new (w : World) (t : TypeId) (a b : Value) : Box2 w ((w.alloc (.cells #[a, b] t)).alloc (.cells #[.bool false, .string ⟨#[]⟩] t)) t a b := by
  have h1 := Two.new w t a b
  have h2 := Two.new (w.alloc (.cells #[a, b] t)) t (.bool false) (.string ⟨#[]⟩)
  refine ⟨h1.alloc _, ?_, ((Below.refl _ _).alloc (Nat.le_refl _) _).alloc (by simp) _, by simp⟩
  simpa using h2
theorem Box2.below {w W W' : World} {t : TypeId} {a b : Value} (h : Box2 w W t a b) (hb : Below W.heap.size W W') : Box2 w W' t a b :=
  ⟨h.x.below hb h.x.lt, h.z.below hb h.z.lt, h.b.trans (hb.mono (by have := h.s; omega)), by have := hb.size; have := h.s; omega⟩
theorem Box2.ret {w W : World} {t : TypeId} {a b : Value} (h : Box2 w W t a b) (u v : Value) : (W.setCell ⟨w.heap.size + 1, 0, none⟩ u).cell? ⟨w.heap.size + 1, 0, none⟩ = some u ∧ ((W.setCell ⟨w.heap.size + 1, 0, none⟩ u).setCell ⟨w.heap.size + 1, 1, none⟩ v).cell? ⟨w.heap.size + 1, 1, none⟩ = some v ∧
    Below w.heap.size w ((W.setCell ⟨w.heap.size + 1, 0, none⟩ u).setCell ⟨w.heap.size + 1, 1, none⟩ v) :=
  ⟨(h.z.read u v).1, (h.z.read u v).2, (h.b.setCell (by simp) _).setCell (by simp) _⟩
/-- one argument in memory -/
structure Box1 (w W : World) (t : TypeId) (a b : Value) : Prop where
  x : Two W w.heap.size t a b
  b : Below w.heap.size w W
  s : w.heap.size + 1 ≤ W.heap.size
theorem Box1.new (w : World) (t : TypeId) (a b : Value) : Box1 w (w.alloc (.cells #[a, b] t)) t a b :=
  ⟨Two.new w t a b, (Below.refl _ _).alloc (Nat.le_refl _) _, by simp⟩
theorem Box1.below {w W W' : World} {t : TypeId} {a b : Value} (h : Box1 w W t a b) (hb : Below W.heap.size W W') : Box1 w W' t a b :=
  ⟨h.x.below hb h.x.lt, h.b.trans (hb.mono (by have := h.s; omega)), by have := hb.size; have := h.s; omega⟩

theorem Valid_ok (n : Bool) (s : ByteArray) (w : World) (h : vld n s = true) : Calls Tryd.prog 36 #[.agg #[.bool n, .string s]] w (RetB true w) := by
  have := Valid_any n s w
  rwa [h] at this
/-- two arguments of any kind and the result, in memory -/
structure BoxG (w W : World) (t : TypeId) (a b c d : Value) : Prop where
  x : Two W w.heap.size t a b
  y : Two W (w.heap.size + 1) t c d
  z : Two W (w.heap.size + 1 + 1) t (.bool false) (.string ⟨#[]⟩)
  b : Below w.heap.size w W
  s : w.heap.size + 3 ≤ W.heap.size
theorem BoxG.new (w : World) (t : TypeId) (a b c d : Value) : BoxG w (((w.alloc (.cells #[a, b] t)).alloc (.cells #[c, d] t)).alloc (.cells #[.bool false, .string ⟨#[]⟩] t)) t a b c d := by
  have h1 := Two.new w t a b
  have h2 := Two.new (w.alloc (.cells #[a, b] t)) t c d
  have h3 := Two.new ((w.alloc (.cells #[a, b] t)).alloc (.cells #[c, d] t)) t (.bool false) (.string ⟨#[]⟩)
  refine ⟨(h1.alloc _).alloc _, ?_, ?_, (((Below.refl _ _).alloc (Nat.le_refl _) _).alloc (by simp) _).alloc (by simp; omega) _, by simp⟩
  · have := h2.alloc (.cells #[.bool false, .string ⟨#[]⟩] t); simpa using this
  · simpa using h3
theorem BoxG.below {w W W' : World} {t : TypeId} {a b c d : Value} (h : BoxG w W t a b c d) (hb : Below W.heap.size W W') : BoxG w W' t a b c d :=
  ⟨h.x.below hb h.x.lt, h.y.below hb h.y.lt, h.z.below hb h.z.lt, h.b.trans (hb.mono (by have := h.s; omega)), by have := hb.size; have := h.s; omega⟩
theorem BoxG.ret {w W : World} {t : TypeId} {a b c d : Value} (h : BoxG w W t a b c d) (u v : Value) : (W.setCell ⟨w.heap.size + 1 + 1, 0, none⟩ u).cell? ⟨w.heap.size + 1 + 1, 0, none⟩ = some u ∧ ((W.setCell ⟨w.heap.size + 1 + 1, 0, none⟩ u).setCell ⟨w.heap.size + 1 + 1, 1, none⟩ v).cell? ⟨w.heap.size + 1 + 1, 1, none⟩ = some v ∧
    Below w.heap.size w ((W.setCell ⟨w.heap.size + 1 + 1, 0, none⟩ u).setCell ⟨w.heap.size + 1 + 1, 1, none⟩ v) :=
  ⟨(h.z.read u v).1, (h.z.read u v).2, (h.b.setCell (by simp; omega) _).setCell (by simp; omega) _⟩

def RetN (n : Int) (w : World) (e : Ending) (w' : World) : Prop := e = .returned (.int .i64 n) ∧ Below w.heap.size w w'

theorem mg_empty {z : Int} (h : z = 0) : (mg z).toList = [] ∧ (mg z).toList.isEmpty = true := str_empty ((mg_size_zero z).2 h)
theorem mg_full {z : Int} (h : z ≠ 0) : ¬ (mg z).toList = [] ∧ (mg z).toList.isEmpty = false := str_full (Nat.pos_of_ne_zero fun e => h ((mg_size_zero z).1 e))

theorem Valid_no (n : Bool) (s : ByteArray) (w : World) (h : vld n s = false) : Calls Tryd.prog 36 #[.agg #[.bool n, .string s]] w (RetB false w) := by
  have := Valid_any n s w
  rwa [h] at this

theorem RetI.zero {w w' : World} (h : Below w.heap.size w w') : RetI 0 w (.returned (.agg #[.bool false, .string ⟨#[]⟩])) w' :=
  ⟨ret_vI rfl mg_zero.symm, h⟩

set_option maxHeartbeats 1000000 in
set_option maxRecDepth 100000 in
theorem Neg_bad (n : Bool) (s : ByteArray) (w : World) (h : vld n s = false) : Calls Tryd.prog 16 #[.agg #[.bool n, .string s]] w (RetI 0 w) := by
  have h0 := Box2.new w 23 (.bool n) (.string s)
  go_enter Tryd.func16, Tryd.ntmps16
  go_wp2_with fail
  obtain ⟨W0, hW0⟩ : ∃ W0, W0 = ((w.alloc (.cells #[.bool n, .string s] 23)).alloc (.cells #[.bool false, .string ⟨#[]⟩] 23)) := ⟨_, rfl⟩
  rw [← hW0] at h0 ⊢
  clear hW0
  refine (Valid_no n s W0 h).mono ?_
  rintro e W1 ⟨rfl, hb⟩
  have h1 := h0.below hb
  obtain ⟨f0, f1⟩ := h1.z.free
  obtain ⟨z0, z1⟩ := h1.z.cells
  go_wp2_with fail
  obtain ⟨r0, r1, r2⟩ := h1.ret (.bool false) (.string ⟨#[]⟩)
  exact bodyPost_ret (v := .agg #[.bool false, .string ⟨#[]⟩]) (by simp [results, Tryd.results16, go_sem, r0, r1]) rfl (RetI.zero r2)
set_option maxHeartbeats 1000000 in
set_option maxRecDepth 100000 in
theorem Abs_bad (n : Bool) (s : ByteArray) (w : World) (h : vld n s = false) : Calls Tryd.prog 35 #[.agg #[.bool n, .string s]] w (RetI 0 w) := by
  have h0 := Box2.new w 23 (.bool n) (.string s)
  go_enter Tryd.func35, Tryd.ntmps35
  go_wp2_with fail
  obtain ⟨W0, hW0⟩ : ∃ W0, W0 = ((w.alloc (.cells #[.bool n, .string s] 23)).alloc (.cells #[.bool false, .string ⟨#[]⟩] 23)) := ⟨_, rfl⟩
  rw [← hW0] at h0 ⊢
  clear hW0
  refine (Valid_no n s W0 h).mono ?_
  rintro e W1 ⟨rfl, hb⟩
  have h1 := h0.below hb
  obtain ⟨f0, f1⟩ := h1.z.free
  obtain ⟨z0, z1⟩ := h1.z.cells
  go_wp2_with fail
  obtain ⟨r0, r1, r2⟩ := h1.ret (.bool false) (.string ⟨#[]⟩)
  exact bodyPost_ret (v := .agg #[.bool false, .string ⟨#[]⟩]) (by simp [results, Tryd.results35, go_sem, r0, r1]) rfl (RetI.zero r2)

theorem sg_neg (x : Int) (h : x ≠ 0) : sg (-x) = !sg x := by
  unfold sg
  by_cases hx : x < 0
  · simp [hx]; omega
  · simp [hx]; omega

set_option maxHeartbeats 1000000 in
set_option maxRecDepth 100000 in
theorem Neg_zero (x : Int) (w : World) (h : x = 0) : Calls Tryd.prog 16 #[vI x] w (RetI (-x) w) := by
  have h0 := Box2.new w 23 (.bool (sg x)) (.string (mg x))
  obtain ⟨e1, e2⟩ := mg_empty h
  have HSG : Hid (sg x = false) := Lib.hid (by unfold sg; simp; omega)
  have hn : sg (-x) = false := by unfold sg; simp; omega
  have HN := Lib.hid hn
  clear hn h
  go_enter Tryd.func16, Tryd.ntmps16
  go_wp2_with fail
  obtain ⟨W0, hW0⟩ : ∃ W0, W0 = ((w.alloc (.cells #[.bool (sg x), .string (mg x)] 23)).alloc (.cells #[.bool false, .string ⟨#[]⟩] 23)) := ⟨_, rfl⟩
  rw [← hW0] at h0 ⊢
  clear hW0
  refine (Valid_yes x W0).mono ?_
  rintro e W1 ⟨rfl, hb⟩
  have h1 := h0.below hb
  obtain ⟨x0, x1⟩ := h1.x.cells
  obtain ⟨f0, f1⟩ := h1.z.free
  obtain ⟨z0, z1⟩ := h1.z.cells
  have hs := HSG.out
  go_wp2_with fail
  obtain ⟨r0, r1, r2⟩ := h1.ret (.bool false) (.string (mg x))
  exact bodyPost_ret (v := .agg #[.bool false, .string (mg x)]) (by simp [results, Tryd.results16, go_sem, r0, r1]) rfl ⟨ret_vI HN.out.symm (mg_neg x).symm, r2⟩
set_option maxHeartbeats 1000000 in
set_option maxRecDepth 100000 in
theorem Neg_neg (x : Int) (w : World) (h : x < 0) : Calls Tryd.prog 16 #[vI x] w (RetI (-x) w) := by
  have h0 := Box2.new w 23 (.bool (sg x)) (.string (mg x))
  obtain ⟨e1, e2⟩ := mg_full (show x ≠ 0 by omega)
  have HSG : Hid (sg x = true) := Lib.hid (by unfold sg; simp; omega)
  have hn : sg (-x) = false := by unfold sg; simp; omega
  have HN := Lib.hid hn
  clear hn h
  go_enter Tryd.func16, Tryd.ntmps16
  go_wp2_with fail
  obtain ⟨W0, hW0⟩ : ∃ W0, W0 = ((w.alloc (.cells #[.bool (sg x), .string (mg x)] 23)).alloc (.cells #[.bool false, .string ⟨#[]⟩] 23)) := ⟨_, rfl⟩
  rw [← hW0] at h0 ⊢
  clear hW0
  refine (Valid_yes x W0).mono ?_
  rintro e W1 ⟨rfl, hb⟩
  have h1 := h0.below hb
  obtain ⟨x0, x1⟩ := h1.x.cells
  obtain ⟨f0, f1⟩ := h1.z.free
  obtain ⟨z0, z1⟩ := h1.z.cells
  have hs := HSG.out
  go_wp2_with fail
  obtain ⟨r0, r1, r2⟩ := h1.ret (.bool false) (.string (mg x))
  exact bodyPost_ret (v := .agg #[.bool false, .string (mg x)]) (by simp [results, Tryd.results16, go_sem, r0, r1]) rfl ⟨ret_vI HN.out.symm (mg_neg x).symm, r2⟩
set_option maxHeartbeats 1000000 in
set_option maxRecDepth 100000 in
theorem Neg_pos (x : Int) (w : World) (h : 0 < x) : Calls Tryd.prog 16 #[vI x] w (RetI (-x) w) := by
  have h0 := Box2.new w 23 (.bool (sg x)) (.string (mg x))
  obtain ⟨e1, e2⟩ := mg_full (show x ≠ 0 by omega)
  have HSG : Hid (sg x = false) := Lib.hid (by unfold sg; simp; omega)
  have hn : sg (-x) = true := by unfold sg; simp; omega
  have HN := Lib.hid hn
  clear hn h
  go_enter Tryd.func16, Tryd.ntmps16
  go_wp2_with fail
  obtain ⟨W0, hW0⟩ : ∃ W0, W0 = ((w.alloc (.cells #[.bool (sg x), .string (mg x)] 23)).alloc (.cells #[.bool false, .string ⟨#[]⟩] 23)) := ⟨_, rfl⟩
  rw [← hW0] at h0 ⊢
  clear hW0
  refine (Valid_yes x W0).mono ?_
  rintro e W1 ⟨rfl, hb⟩
  have h1 := h0.below hb
  obtain ⟨x0, x1⟩ := h1.x.cells
  obtain ⟨f0, f1⟩ := h1.z.free
  obtain ⟨z0, z1⟩ := h1.z.cells
  have hs := HSG.out
  go_wp2_with fail
  obtain ⟨r0, r1, r2⟩ := h1.ret (.bool true) (.string (mg x))
  exact bodyPost_ret (v := .agg #[.bool true, .string (mg x)]) (by simp [results, Tryd.results16, go_sem, r0, r1]) rfl ⟨ret_vI HN.out.symm (mg_neg x).symm, r2⟩
theorem Neg_any (x : Int) (w : World) : Calls Tryd.prog 16 #[vI x] w (RetI (-x) w) := by
  rcases Int.lt_trichotomy x 0 with h | h | h
  · exact Neg_neg x w h
  · exact Neg_zero x w h
  · exact Neg_pos x w h

theorem abs_facts (x : Int) : sg (x.natAbs : Int) = false ∧ mg (x.natAbs : Int) = mg x := by
  refine ⟨by unfold sg; simp, by unfold mg; simp⟩

set_option maxHeartbeats 1000000 in
set_option maxRecDepth 100000 in
theorem Abs_any (x : Int) (w : World) : Calls Tryd.prog 35 #[vI x] w (RetI (x.natAbs : Int) w) := by
  have h0 := Box2.new w 23 (.bool (sg x)) (.string (mg x))
  go_enter Tryd.func35, Tryd.ntmps35
  go_wp2_with fail
  obtain ⟨W0, hW0⟩ : ∃ W0, W0 = ((w.alloc (.cells #[.bool (sg x), .string (mg x)] 23)).alloc (.cells #[.bool false, .string ⟨#[]⟩] 23)) := ⟨_, rfl⟩
  rw [← hW0] at h0 ⊢
  clear hW0
  refine (Valid_yes x W0).mono ?_
  rintro e W1 ⟨rfl, hb⟩
  have h1 := h0.below hb
  obtain ⟨x0, x1⟩ := h1.x.cells
  obtain ⟨f0, f1⟩ := h1.z.free
  obtain ⟨z0, z1⟩ := h1.z.cells
  go_wp2_with fail
  obtain ⟨r0, r1, r2⟩ := h1.ret (.bool false) (.string (mg x))
  exact bodyPost_ret (v := .agg #[.bool false, .string (mg x)]) (by simp [results, Tryd.results35, go_sem, r0, r1]) rfl ⟨ret_vI (abs_facts x).1.symm (abs_facts x).2.symm, r2⟩

set_option maxHeartbeats 1000000 in
set_option maxRecDepth 100000 in
theorem Sign_zero (x : Int) (w : World) (h : x = 0) : Calls Tryd.prog 19 #[vI x] w (RetN x.sign w) := by
  have h0 := Box1.new w 23 (.bool (sg x)) (.string (mg x))
  obtain ⟨e1, e2⟩ := mg_empty h
  have HSG : Hid (sg x = false) := Lib.hid (by unfold sg; simp; omega)
  have HV : Hid (x.sign = (0)) := Lib.hid (by first | (subst h; rfl) | exact Int.sign_eq_neg_one_of_neg h | exact Int.sign_eq_one_of_pos h)
  rw [HV.out]
  clear h
  go_enter Tryd.func19, Tryd.ntmps19
  go_wp2_with fail
  obtain ⟨W0, hW0⟩ : ∃ W0, W0 = (w.alloc (.cells #[.bool (sg x), .string (mg x)] 23)) := ⟨_, rfl⟩
  rw [← hW0] at h0 ⊢
  clear hW0
  refine (Valid_yes x W0).mono ?_
  rintro e W1 ⟨rfl, hb⟩
  have h1 := h0.below hb
  obtain ⟨x0, x1⟩ := h1.x.cells
  have hs := HSG.out
  go_wp2_with fail
  go_ret
  exact ⟨rfl, h1.b⟩
set_option maxHeartbeats 1000000 in
set_option maxRecDepth 100000 in
theorem Sign_neg (x : Int) (w : World) (h : x < 0) : Calls Tryd.prog 19 #[vI x] w (RetN x.sign w) := by
  have h0 := Box1.new w 23 (.bool (sg x)) (.string (mg x))
  obtain ⟨e1, e2⟩ := mg_full (show x ≠ 0 by omega)
  have HSG : Hid (sg x = true) := Lib.hid (by unfold sg; simp; omega)
  have HV : Hid (x.sign = (-1)) := Lib.hid (by first | (subst h; rfl) | exact Int.sign_eq_neg_one_of_neg h | exact Int.sign_eq_one_of_pos h)
  rw [HV.out]
  clear h
  go_enter Tryd.func19, Tryd.ntmps19
  go_wp2_with fail
  obtain ⟨W0, hW0⟩ : ∃ W0, W0 = (w.alloc (.cells #[.bool (sg x), .string (mg x)] 23)) := ⟨_, rfl⟩
  rw [← hW0] at h0 ⊢
  clear hW0
  refine (Valid_yes x W0).mono ?_
  rintro e W1 ⟨rfl, hb⟩
  have h1 := h0.below hb
  obtain ⟨x0, x1⟩ := h1.x.cells
  have hs := HSG.out
  go_wp2_with fail
  go_ret
  exact ⟨rfl, h1.b⟩
set_option maxHeartbeats 1000000 in
set_option maxRecDepth 100000 in
theorem Sign_pos (x : Int) (w : World) (h : 0 < x) : Calls Tryd.prog 19 #[vI x] w (RetN x.sign w) := by
  have h0 := Box1.new w 23 (.bool (sg x)) (.string (mg x))
  obtain ⟨e1, e2⟩ := mg_full (show x ≠ 0 by omega)
  have HSG : Hid (sg x = false) := Lib.hid (by unfold sg; simp; omega)
  have HV : Hid (x.sign = (1)) := Lib.hid (by first | (subst h; rfl) | exact Int.sign_eq_neg_one_of_neg h | exact Int.sign_eq_one_of_pos h)
  rw [HV.out]
  clear h
  go_enter Tryd.func19, Tryd.ntmps19
  go_wp2_with fail
  obtain ⟨W0, hW0⟩ : ∃ W0, W0 = (w.alloc (.cells #[.bool (sg x), .string (mg x)] 23)) := ⟨_, rfl⟩
  rw [← hW0] at h0 ⊢
  clear hW0
  refine (Valid_yes x W0).mono ?_
  rintro e W1 ⟨rfl, hb⟩
  have h1 := h0.below hb
  obtain ⟨x0, x1⟩ := h1.x.cells
  have hs := HSG.out
  go_wp2_with fail
  go_ret
  exact ⟨rfl, h1.b⟩
theorem Sign_any (x : Int) (w : World) : Calls Tryd.prog 19 #[vI x] w (RetN x.sign w) := by
  rcases Int.lt_trichotomy x 0 with h | h | h
  · exact Sign_neg x w h
  · exact Sign_zero x w h
  · exact Sign_pos x w h

set_option maxHeartbeats 1000000 in
set_option maxRecDepth 100000 in
theorem Sign_bad (n : Bool) (s : ByteArray) (w : World) (h : vld n s = false) : Calls Tryd.prog 19 #[.agg #[.bool n, .string s]] w (RetN 0 w) := by
  have h0 := Box1.new w 23 (.bool n) (.string s)
  go_enter Tryd.func19, Tryd.ntmps19
  go_wp2_with fail
  obtain ⟨W0, hW0⟩ : ∃ W0, W0 = (w.alloc (.cells #[.bool n, .string s] 23)) := ⟨_, rfl⟩
  rw [← hW0] at h0 ⊢
  clear hW0
  refine (Valid_no n s W0 h).mono ?_
  rintro e W1 ⟨rfl, hb⟩
  have h1 := h0.below hb
  go_wp2_with fail
  go_ret
  exact ⟨rfl, h1.b⟩
set_option maxHeartbeats 1000000 in
set_option maxRecDepth 100000 in
theorem Bits_bad (n : Bool) (s : ByteArray) (w : World) (h : vld n s = false) : Calls Tryd.prog 21 #[.agg #[.bool n, .string s]] w (RetN 0 w) := by
  have h0 := Box1.new w 23 (.bool n) (.string s)
  go_enter Tryd.func21, Tryd.ntmps21
  go_wp2_with fail
  obtain ⟨W0, hW0⟩ : ∃ W0, W0 = (w.alloc (.cells #[.bool n, .string s] 23)) := ⟨_, rfl⟩
  rw [← hW0] at h0 ⊢
  clear hW0
  refine (Valid_no n s W0 h).mono ?_
  rintro e W1 ⟨rfl, hb⟩
  have h1 := h0.below hb
  go_wp2_with fail
  go_ret
  exact ⟨rfl, h1.b⟩

set_option maxHeartbeats 1000000 in
set_option maxRecDepth 100000 in
theorem Add_bad1 (n m : Bool) (s t : ByteArray) (w : World) (h : vld n s = false) : Calls Tryd.prog 13 #[.agg #[.bool n, .string s], .agg #[.bool m, .string t]] w (RetI 0 w) := by
  have h0 := BoxG.new w 23 (.bool n) (.string s) (.bool m) (.string t)
  go_enter Tryd.func13, Tryd.ntmps13
  go_wp2_with fail
  obtain ⟨W0, hW0⟩ : ∃ W0, W0 = (((w.alloc (.cells #[.bool n, .string s] 23)).alloc (.cells #[.bool m, .string t] 23)).alloc (.cells #[.bool false, .string ⟨#[]⟩] 23)) := ⟨_, rfl⟩
  rw [← hW0] at h0 ⊢
  clear hW0
  refine (Valid_no n s W0 h).mono ?_
  rintro e W1 ⟨rfl, hb⟩
  have h1 := h0.below hb
  obtain ⟨f0, f1⟩ := h1.z.free
  obtain ⟨z0, z1⟩ := h1.z.cells
  go_wp2_with fail
  obtain ⟨r0, r1, r2⟩ := h1.ret (.bool false) (.string ⟨#[]⟩)
  exact bodyPost_ret (v := .agg #[.bool false, .string ⟨#[]⟩]) (by simp [results, Tryd.results13, go_sem, r0, r1]) rfl (RetI.zero r2)
set_option maxHeartbeats 1000000 in
set_option maxRecDepth 100000 in
theorem Add_bad2 (n m : Bool) (s t : ByteArray) (w : World) (h : vld n s = true) (h' : vld m t = false) : Calls Tryd.prog 13 #[.agg #[.bool n, .string s], .agg #[.bool m, .string t]] w (RetI 0 w) := by
  have h0 := BoxG.new w 23 (.bool n) (.string s) (.bool m) (.string t)
  go_enter Tryd.func13, Tryd.ntmps13
  go_wp2_with fail
  obtain ⟨W0, hW0⟩ : ∃ W0, W0 = (((w.alloc (.cells #[.bool n, .string s] 23)).alloc (.cells #[.bool m, .string t] 23)).alloc (.cells #[.bool false, .string ⟨#[]⟩] 23)) := ⟨_, rfl⟩
  rw [← hW0] at h0 ⊢
  clear hW0
  refine (Valid_ok n s W0 h).mono ?_
  rintro e W1 ⟨rfl, hb⟩
  have h1 := h0.below hb
  obtain ⟨y0, y1⟩ := h1.y.cells
  clear hb h0
  go_wp2_with fail
  refine (Valid_no m t W1 h').mono ?_
  rintro e W2 ⟨rfl, hb⟩
  have h2 := h1.below hb
  clear hb h1 y0 y1
  obtain ⟨f0, f1⟩ := h2.z.free
  obtain ⟨z0, z1⟩ := h2.z.cells
  go_wp2_with fail
  obtain ⟨r0, r1, r2⟩ := h2.ret (.bool false) (.string ⟨#[]⟩)
  exact bodyPost_ret (v := .agg #[.bool false, .string ⟨#[]⟩]) (by simp [results, Tryd.results13, go_sem, r0, r1]) rfl (RetI.zero r2)
set_option maxHeartbeats 1000000 in
set_option maxRecDepth 100000 in
theorem Sub_bad1 (n m : Bool) (s t : ByteArray) (w : World) (h : vld n s = false) : Calls Tryd.prog 15 #[.agg #[.bool n, .string s], .agg #[.bool m, .string t]] w (RetI 0 w) := by
  have h0 := BoxG.new w 23 (.bool n) (.string s) (.bool m) (.string t)
  go_enter Tryd.func15, Tryd.ntmps15
  go_wp2_with fail
  obtain ⟨W0, hW0⟩ : ∃ W0, W0 = (((w.alloc (.cells #[.bool n, .string s] 23)).alloc (.cells #[.bool m, .string t] 23)).alloc (.cells #[.bool false, .string ⟨#[]⟩] 23)) := ⟨_, rfl⟩
  rw [← hW0] at h0 ⊢
  clear hW0
  refine (Valid_no n s W0 h).mono ?_
  rintro e W1 ⟨rfl, hb⟩
  have h1 := h0.below hb
  obtain ⟨f0, f1⟩ := h1.z.free
  obtain ⟨z0, z1⟩ := h1.z.cells
  go_wp2_with fail
  obtain ⟨r0, r1, r2⟩ := h1.ret (.bool false) (.string ⟨#[]⟩)
  exact bodyPost_ret (v := .agg #[.bool false, .string ⟨#[]⟩]) (by simp [results, Tryd.results15, go_sem, r0, r1]) rfl (RetI.zero r2)
set_option maxHeartbeats 1000000 in
set_option maxRecDepth 100000 in
theorem Sub_bad2 (n m : Bool) (s t : ByteArray) (w : World) (h : vld n s = true) (h' : vld m t = false) : Calls Tryd.prog 15 #[.agg #[.bool n, .string s], .agg #[.bool m, .string t]] w (RetI 0 w) := by
  have h0 := BoxG.new w 23 (.bool n) (.string s) (.bool m) (.string t)
  go_enter Tryd.func15, Tryd.ntmps15
  go_wp2_with fail
  obtain ⟨W0, hW0⟩ : ∃ W0, W0 = (((w.alloc (.cells #[.bool n, .string s] 23)).alloc (.cells #[.bool m, .string t] 23)).alloc (.cells #[.bool false, .string ⟨#[]⟩] 23)) := ⟨_, rfl⟩
  rw [← hW0] at h0 ⊢
  clear hW0
  refine (Valid_ok n s W0 h).mono ?_
  rintro e W1 ⟨rfl, hb⟩
  have h1 := h0.below hb
  obtain ⟨y0, y1⟩ := h1.y.cells
  clear hb h0
  go_wp2_with fail
  refine (Valid_no m t W1 h').mono ?_
  rintro e W2 ⟨rfl, hb⟩
  have h2 := h1.below hb
  clear hb h1 y0 y1
  obtain ⟨f0, f1⟩ := h2.z.free
  obtain ⟨z0, z1⟩ := h2.z.cells
  go_wp2_with fail
  obtain ⟨r0, r1, r2⟩ := h2.ret (.bool false) (.string ⟨#[]⟩)
  exact bodyPost_ret (v := .agg #[.bool false, .string ⟨#[]⟩]) (by simp [results, Tryd.results15, go_sem, r0, r1]) rfl (RetI.zero r2)
set_option maxHeartbeats 1000000 in
set_option maxRecDepth 100000 in
theorem Mul_bad1 (n m : Bool) (s t : ByteArray) (w : World) (h : vld n s = false) : Calls Tryd.prog 14 #[.agg #[.bool n, .string s], .agg #[.bool m, .string t]] w (RetI 0 w) := by
  have h0 := BoxG.new w 23 (.bool n) (.string s) (.bool m) (.string t)
  go_enter Tryd.func14, Tryd.ntmps14
  go_wp2_with fail
  obtain ⟨W0, hW0⟩ : ∃ W0, W0 = (((w.alloc (.cells #[.bool n, .string s] 23)).alloc (.cells #[.bool m, .string t] 23)).alloc (.cells #[.bool false, .string ⟨#[]⟩] 23)) := ⟨_, rfl⟩
  rw [← hW0] at h0 ⊢
  clear hW0
  refine (Valid_no n s W0 h).mono ?_
  rintro e W1 ⟨rfl, hb⟩
  have h1 := h0.below hb
  obtain ⟨f0, f1⟩ := h1.z.free
  obtain ⟨z0, z1⟩ := h1.z.cells
  go_wp2_with fail
  obtain ⟨r0, r1, r2⟩ := h1.ret (.bool false) (.string ⟨#[]⟩)
  exact bodyPost_ret (v := .agg #[.bool false, .string ⟨#[]⟩]) (by simp [results, Tryd.results14, go_sem, r0, r1]) rfl (RetI.zero r2)
set_option maxHeartbeats 1000000 in
set_option maxRecDepth 100000 in
theorem Mul_bad2 (n m : Bool) (s t : ByteArray) (w : World) (h : vld n s = true) (h' : vld m t = false) : Calls Tryd.prog 14 #[.agg #[.bool n, .string s], .agg #[.bool m, .string t]] w (RetI 0 w) := by
  have h0 := BoxG.new w 23 (.bool n) (.string s) (.bool m) (.string t)
  go_enter Tryd.func14, Tryd.ntmps14
  go_wp2_with fail
  obtain ⟨W0, hW0⟩ : ∃ W0, W0 = (((w.alloc (.cells #[.bool n, .string s] 23)).alloc (.cells #[.bool m, .string t] 23)).alloc (.cells #[.bool false, .string ⟨#[]⟩] 23)) := ⟨_, rfl⟩
  rw [← hW0] at h0 ⊢
  clear hW0
  refine (Valid_ok n s W0 h).mono ?_
  rintro e W1 ⟨rfl, hb⟩
  have h1 := h0.below hb
  obtain ⟨y0, y1⟩ := h1.y.cells
  clear hb h0
  go_wp2_with fail
  refine (Valid_no m t W1 h').mono ?_
  rintro e W2 ⟨rfl, hb⟩
  have h2 := h1.below hb
  clear hb h1 y0 y1
  obtain ⟨f0, f1⟩ := h2.z.free
  obtain ⟨z0, z1⟩ := h2.z.cells
  go_wp2_with fail
  obtain ⟨r0, r1, r2⟩ := h2.ret (.bool false) (.string ⟨#[]⟩)
  exact bodyPost_ret (v := .agg #[.bool false, .string ⟨#[]⟩]) (by simp [results, Tryd.results14, go_sem, r0, r1]) rfl (RetI.zero r2)

set_option maxHeartbeats 2000000 in
set_option maxRecDepth 100000 in
theorem Sub_any (x y : Int) (w : World) (hx : Bd 400000000 x) (hy : Bd 400000000 y) : Calls Tryd.prog 15 #[vI x, vI y] w (RetI (x - y) w) := by
  have h0 := Box3.new w 23 x y
  have HA := fun W => Lib.hid (Add_any x (-y) W hx hy.neg)
  clear hx hy
  go_enter Tryd.func15, Tryd.ntmps15
  go_wp2_with fail
  obtain ⟨W0, hW0⟩ : ∃ W0, W0 = (((w.alloc (.cells #[.bool (sg x), .string (mg x)] 23)).alloc (.cells #[.bool (sg y), .string (mg y)] 23)).alloc (.cells #[.bool false, .string ⟨#[]⟩] 23)) := ⟨_, rfl⟩
  rw [← hW0] at h0 ⊢
  clear hW0
  refine (Valid_yes x W0).mono ?_
  rintro e W1 ⟨rfl, hb⟩
  have h1 := h0.below hb
  obtain ⟨y0, y1⟩ := h1.y.cells
  clear hb h0
  go_wp2_with fail
  refine (Valid_yes y W1).mono ?_
  rintro e W2 ⟨rfl, hb⟩
  have h2 := h1.below hb
  clear hb h1 y0 y1
  go_wp2_with fail
  have hd : Box3 w W2.drew 23 x y := h2.drewN 1
  go_region_held3 (fun W => W.cell? ⟨w.heap.size, 0, none⟩ = some (.bool (sg x)) ∧ W.cell? ⟨w.heap.size, 1, none⟩ = some (.string (mg x)) ∧ W.cell? ⟨w.heap.size + 1, 0, none⟩ = some (.bool (sg y)) ∧ W.cell? ⟨w.heap.size + 1, 1, none⟩ = some (.string (mg y)))
    (first | exact Box3.seen (by assumption) | exact Box3.seen_set (by assumption) _ _)
    (first
      | (go_at_call 16; refine (Neg_any y _).mono ?_; rintro e W5 ⟨rfl, hb3⟩; have hS := Box3.below (by assumption) hb3)
      | (go_at_call 13; refine (HA _).out.mono ?_; rintro e W4 ⟨rfl, hb4⟩; have hS := Box3.below (by assumption) hb4; obtain ⟨f0, f1⟩ := hS.z.free; obtain ⟨z0, z1⟩ := hS.z.cells))
  go_wp2_with fail
  obtain ⟨r0, r1, r2⟩ := hS.ret (.bool (sg (x + -y))) (.string (mg (x + -y)))
  exact bodyPost_ret (v := vI (x + -y)) (by simp [results, Tryd.results15, go_sem, r0, r1]) rfl ⟨by rw [Int.sub_eq_add_neg], r2⟩

end Go.Proofs.YtboolbcckfldaaaDoor
