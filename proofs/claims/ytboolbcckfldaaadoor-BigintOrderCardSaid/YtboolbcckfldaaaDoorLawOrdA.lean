import Derived.Test.YtboolbcckfldaaaDoorLawRoots
namespace Go.Proofs.YtboolbcckfldaaaDoor
open Go.RowKit
set_option linter.unusedVariables false
set_option linter.unusedSimpArgs false

theorem rdi_3 {w : World} {t : TypeId} {b : Nat} {a c d : Bool} {r s u : ByteArray} (h : Ob w b t #[.bool a, .string r, .bool c, .string s, .bool d, .string u]) : RdI w (some ⟨b, 0, none⟩) [(a, r), (c, s), (d, u)] := fun i hi => by
  have : i = 0 ∨ i = 1 ∨ i = 2 := by simp at hi; omega
  rcases this with rfl | rfl | rfl
  · exact ⟨b, 0, rfl, h.cell 0 rfl, h.cell 1 rfl⟩
  · exact ⟨b, 0, rfl, h.cell 2 rfl, h.cell 3 rfl⟩
  · exact ⟨b, 0, rfl, h.cell 4 rfl, h.cell 5 rfl⟩
theorem min_ints (ats : Array TypeId) (ty : TypeId) (k k' : IntKind) (x y : Int) : Builtin.min_ ats ty #[.int k x, .int k' y] = pure (.int k (if y < x then y else x)) := by
  simp only [Builtin.min_, List.foldlM_cons, List.foldlM_nil, Builtin.min2]; rfl
theorem vI_ne {x y : Int} (h : x ≠ y) : sg x = sg y → ¬ (mg x).toList = (mg y).toList := fun h1 h2 => by
  rw [ByteArray.toList_eq, ByteArray.toList_eq] at h2
  exact h (sg_mg_inj h1 (ByteArray.ext (Array.toList_inj.1 h2)))

set_option maxHeartbeats 1000000 in
set_option maxRecDepth 100000 in
theorem Order_no (a b c : Bool) (r s u : ByteArray) (w : World)
    (HAW : ∀ W, Below w.heap.size w W → Calls Tryd.prog 10 #[] W (RetB true W))
    (HRI : ∀ (A : Option Addr) n W, RdI W A [(a, r), (b, s), (c, u)] → Calls Tryd.prog 11 #[.slice A 3 n] W (RetB false W)) :
    Calls Tryd.prog 5 #[.agg #[.bool a, .string r], .agg #[.bool b, .string s], .agg #[.bool c, .string u]] w (RetB true w) := by
  replace HAW := Lib.hid HAW
  replace HRI := Lib.hid HRI
  go_enter Tryd.func5, Tryd.ntmps5
  go_wp2_with fail
  have t3 := ((Ob.new (w) 23 #[.bool a, .string r]).alloc (.cells #[.bool b, .string s] 23)).alloc (.cells #[.bool c, .string u] 23)
  have t4 := (Ob.new ((w.alloc (.cells #[.bool a, .string r] 23))) 23 #[.bool b, .string s]).alloc (.cells #[.bool c, .string u] 23)
  have t5 := Ob.new (((w.alloc (.cells #[.bool a, .string r] 23)).alloc (.cells #[.bool b, .string s] 23))) 23 #[.bool c, .string u]
  have bl := ((((Below.refl w.heap.size w).alloc (Nat.le_refl _) (.cells #[.bool a, .string r] 23)).alloc (by simp only [World.size_alloc]; omega) (.cells #[.bool b, .string s] 23)).alloc (by simp only [World.size_alloc]; omega) (.cells #[.bool c, .string u] 23))
  try simp only [World.size_alloc] at t3 t4 t5
  generalize World.alloc (World.alloc (World.alloc w _) _) _ = W1 at t3 t4 t5 bl ⊢
  refine (HAW.out W1 bl).mono ?_
  rintro e W2 ⟨rfl, hb⟩
  have t3 := t3.below hb t3.lt
  have t4 := t4.below hb t4.lt
  have t5 := t5.below hb t5.lt
  have bl := bl.trans (Below.mono hb bl.size)
  clear hb
  obtain ⟨c0_0, c0_1⟩ := t3.cells2
  obtain ⟨c1_0, c1_1⟩ := t4.cells2
  obtain ⟨c2_0, c2_1⟩ := t5.cells2
  go_wp2_with fail
  clear c0_0 c0_1 c1_0 c1_1 c2_0 c2_1
  have t3 := (t3.alloc (.cells #[.bool a, .string r, .bool b, .string s, .bool c, .string u] 23))
  have t4 := (t4.alloc (.cells #[.bool a, .string r, .bool b, .string s, .bool c, .string u] 23))
  have t5 := (t5.alloc (.cells #[.bool a, .string r, .bool b, .string s, .bool c, .string u] 23))
  have t13 := Ob.new (W2) 23 #[.bool a, .string r, .bool b, .string s, .bool c, .string u]
  have bl := (bl.alloc (by have := bl.size; (try simp only [World.size_alloc] at *); omega) (.cells #[.bool a, .string r, .bool b, .string s, .bool c, .string u] 23))
  try simp only [World.size_alloc] at t3 t4 t5 t13
  generalize hn3 : W2.heap.size = bk3 at t13 ⊢
  clear hn3
  generalize World.alloc W2 _ = W3 at t3 t4 t5 t13 bl ⊢
  refine (HRI.out _ 3 W3 (rdi_3 t13)).mono ?_
  rintro e W4 ⟨rfl, hb⟩
  have t3 := t3.below hb t3.lt
  have t4 := t4.below hb t4.lt
  have t5 := t5.below hb t5.lt
  have t13 := t13.below hb t13.lt
  have bl := bl.trans (Below.mono hb bl.size)
  clear hb
  go_wp2_with fail
  go_ret
  exact ⟨rfl, bl⟩
attribute [local go_sem] min_ints
set_option maxHeartbeats 4000000 in
set_option maxRecDepth 100000 in
theorem Order_lt1p (x y z xz yz e p q xx : Int) (kbc kac sc bi mb : Int) (w : World)
    (HAW : ∀ W, Below w.heap.size w W → Calls Tryd.prog 10 #[] W (RetB true W))
    (HRI : ∀ (A : Option Addr) n W, RdI W A [(sg x, mg x), (sg y, mg y), (sg z, mg z)] → Calls Tryd.prog 11 #[.slice A 3 n] W (RetB true W))
    (C1 : ∀ W, Calls Tryd.prog 20 #[vI x, vI y] W (RetN (-1) W))
    (C2 : ∀ W, Calls Tryd.prog 20 #[vI y, vI x] W (RetN (1) W))
    (C3 : ∀ W, Calls Tryd.prog 20 #[vI y, vI z] W (RetN kbc W))
    (h3 : 0 < kbc)
    (A1 : ∀ W, Calls Tryd.prog 13 #[vI x, vI z] W (RetI xz W))
    (A2 : ∀ W, Calls Tryd.prog 13 #[vI y, vI z] W (RetI yz W))
    (C5 : ∀ W, Calls Tryd.prog 20 #[vI xz, vI yz] W (RetN (-1) W))
    (S1 : ∀ W, Calls Tryd.prog 15 #[vI x, vI y] W (RetI e W))
    (G1 : ∀ W, Calls Tryd.prog 19 #[vI e] W (RetN (-1) W))
    (G2 : ∀ W, Calls Tryd.prog 19 #[vI z] W (RetN sc W))
    (h5 : 0 < sc)
    (M1 : ∀ W, Calls Tryd.prog 14 #[vI x, vI z] W (RetI p W))
    (M2 : ∀ W, Calls Tryd.prog 14 #[vI y, vI z] W (RetI q W))
    (C6 : ∀ W, Calls Tryd.prog 20 #[vI p, vI q] W (RetN (-1) W))
    (A3 : ∀ W, Calls Tryd.prog 13 #[vI x, vI x] W (RetI xx W))
    (B1 : ∀ W, Calls Tryd.prog 21 #[vI xx] W (RetN (bi + mb) W))
    (B2 : ∀ W, Calls Tryd.prog 21 #[vI x] W (RetN bi W))
    (HMB : (if bi < 1 then bi else 1) = mb)
    (HWB : IntKind.i64.wrap (bi + mb) = bi + mb)
    (hne : x ≠ y) :
    Calls Tryd.prog 5 #[vI x, vI y, vI z] w (RetB true w) := by
  have HNE := Lib.hid (vI_ne hne)
  clear hne
  replace HAW := Lib.hid HAW
  replace HRI := Lib.hid HRI
  replace C1 := Lib.hid C1
  replace C2 := Lib.hid C2
  replace C3 := Lib.hid C3
  replace A1 := Lib.hid A1
  replace A2 := Lib.hid A2
  replace C5 := Lib.hid C5
  replace S1 := Lib.hid S1
  replace G1 := Lib.hid G1
  replace G2 := Lib.hid G2
  replace M1 := Lib.hid M1
  replace M2 := Lib.hid M2
  replace C6 := Lib.hid C6
  replace A3 := Lib.hid A3
  replace B1 := Lib.hid B1
  replace B2 := Lib.hid B2
  replace HMB := Lib.hid HMB
  replace HWB := Lib.hid HWB
  go_enter Tryd.func5, Tryd.ntmps5
  go_wp2_with fail
  have t3 := ((Ob.new (w) 23 #[.bool (sg x), .string (mg x)]).alloc (.cells #[.bool (sg y), .string (mg y)] 23)).alloc (.cells #[.bool (sg z), .string (mg z)] 23)
  have t4 := (Ob.new ((w.alloc (.cells #[.bool (sg x), .string (mg x)] 23))) 23 #[.bool (sg y), .string (mg y)]).alloc (.cells #[.bool (sg z), .string (mg z)] 23)
  have t5 := Ob.new (((w.alloc (.cells #[.bool (sg x), .string (mg x)] 23)).alloc (.cells #[.bool (sg y), .string (mg y)] 23))) 23 #[.bool (sg z), .string (mg z)]
  have bl := ((((Below.refl w.heap.size w).alloc (Nat.le_refl _) (.cells #[.bool (sg x), .string (mg x)] 23)).alloc (by simp only [World.size_alloc]; omega) (.cells #[.bool (sg y), .string (mg y)] 23)).alloc (by simp only [World.size_alloc]; omega) (.cells #[.bool (sg z), .string (mg z)] 23))
  try simp only [World.size_alloc] at t3 t4 t5
  generalize World.alloc (World.alloc (World.alloc w _) _) _ = W1 at t3 t4 t5 bl ⊢
  refine (HAW.out W1 bl).mono ?_
  rintro e W2 ⟨rfl, hb⟩
  have t3 := t3.below hb t3.lt
  have t4 := t4.below hb t4.lt
  have t5 := t5.below hb t5.lt
  have bl := bl.trans (Below.mono hb bl.size)
  clear hb
  obtain ⟨c0_0, c0_1⟩ := t3.cells2
  obtain ⟨c1_0, c1_1⟩ := t4.cells2
  obtain ⟨c2_0, c2_1⟩ := t5.cells2
  go_wp2_with fail
  clear c0_0 c0_1 c1_0 c1_1 c2_0 c2_1
  have t3 := (t3.alloc (.cells #[.bool (sg x), .string (mg x), .bool (sg y), .string (mg y), .bool (sg z), .string (mg z)] 23))
  have t4 := (t4.alloc (.cells #[.bool (sg x), .string (mg x), .bool (sg y), .string (mg y), .bool (sg z), .string (mg z)] 23))
  have t5 := (t5.alloc (.cells #[.bool (sg x), .string (mg x), .bool (sg y), .string (mg y), .bool (sg z), .string (mg z)] 23))
  have t13 := Ob.new (W2) 23 #[.bool (sg x), .string (mg x), .bool (sg y), .string (mg y), .bool (sg z), .string (mg z)]
  have bl := (bl.alloc (by have := bl.size; (try simp only [World.size_alloc] at *); omega) (.cells #[.bool (sg x), .string (mg x), .bool (sg y), .string (mg y), .bool (sg z), .string (mg z)] 23))
  try simp only [World.size_alloc] at t3 t4 t5 t13
  generalize hn3 : W2.heap.size = bk3 at t13 ⊢
  clear hn3
  generalize World.alloc W2 _ = W3 at t3 t4 t5 t13 bl ⊢
  refine (HRI.out _ 3 W3 (rdi_3 t13)).mono ?_
  rintro e W4 ⟨rfl, hb⟩
  have t3 := t3.below hb t3.lt
  have t4 := t4.below hb t4.lt
  have t5 := t5.below hb t5.lt
  have t13 := t13.below hb t13.lt
  have bl := bl.trans (Below.mono hb bl.size)
  clear hb
  obtain ⟨c0_0, c0_1⟩ := t3.cells2
  obtain ⟨c1_0, c1_1⟩ := t4.cells2
  go_wp2_with fail
  clear c0_0 c0_1 c1_0 c1_1
  refine (C1.out W4).mono ?_
  rintro e W5 ⟨rfl, hb⟩
  have t3 := t3.below hb t3.lt
  have t4 := t4.below hb t4.lt
  have t5 := t5.below hb t5.lt
  have t13 := t13.below hb t13.lt
  have bl := bl.trans (Below.mono hb bl.size)
  clear hb
  go_wp2_with fail
  refine region_qb (by kernel_rfl) (by kernel_rfl) ?_
  refine qb_mv (.int .i64 (-1)) _ (.inl rfl) (by kernel_rfl) (by rfl) ?_
  simp only [Act.put, List.setIfInBounds_toArray, List.set_cons_zero, List.set_cons_succ]
  refine qb_run (vI y) (by kernel_rfl) (fun w' hC => by obtain ⟨q0, q1⟩ := (t4.below hC t4.lt).cells2; go_simp) ?_
  simp only [Act.put, List.setIfInBounds_toArray, List.set_cons_zero, List.set_cons_succ]
  refine qb_run (vI x) (by kernel_rfl) (fun w' hC => by obtain ⟨q0, q1⟩ := (t3.below hC t3.lt).cells2; go_simp) ?_
  simp only [Act.put, List.setIfInBounds_toArray, List.set_cons_zero, List.set_cons_succ]
  refine qb_call (.int .i64 1) 20 #[vI y, vI x] (by kernel_rfl) (fun w' => by go_simp) (fun w' hC => (C2.out w').mono (fun e w'' h => ⟨h.1, hC.step h.2⟩)) ?_
  simp only [Act.put, List.setIfInBounds_toArray, List.set_cons_zero, List.set_cons_succ]
  refine qb_run (.int .i64 (-1)) (by kernel_rfl) (fun w' hC => by go_simp <;> rfl) ?_
  simp only [Act.put, List.setIfInBounds_toArray, List.set_cons_zero, List.set_cons_succ]
  refine qb_run (.bool false) (by kernel_rfl) (fun w' hC => by go_simp) ?_
  simp only [Act.put, List.setIfInBounds_toArray, List.set_cons_zero, List.set_cons_succ]
  refine qb_mv (.bool false) _ (.inl rfl) (by kernel_rfl) (by rfl) ?_
  simp only [Act.put, List.setIfInBounds_toArray, List.set_cons_zero, List.set_cons_succ]
  refine qb_mv (.int .i64 (-1)) _ (.inl rfl) (by kernel_rfl) (by rfl) ?_
  simp only [Act.put, List.setIfInBounds_toArray, List.set_cons_zero, List.set_cons_succ]
  refine qb_run (.bool false) (by kernel_rfl) (fun w' hC => by go_simp) ?_
  simp only [Act.put, List.setIfInBounds_toArray, List.set_cons_zero, List.set_cons_succ]
  refine qb_run (vI x) (by kernel_rfl) (fun w' hC => by obtain ⟨q0, q1⟩ := (t3.below hC t3.lt).cells2; go_simp) ?_
  simp only [Act.put, List.setIfInBounds_toArray, List.set_cons_zero, List.set_cons_succ]
  refine qb_run (vI y) (by kernel_rfl) (fun w' hC => by obtain ⟨q0, q1⟩ := (t4.below hC t4.lt).cells2; go_simp) ?_
  simp only [Act.put, List.setIfInBounds_toArray, List.set_cons_zero, List.set_cons_succ]
  refine qb_run (.bool false) (by kernel_rfl) (fun w' hC => by go_simp; exact HNE.out) ?_
  simp only [Act.put, List.setIfInBounds_toArray, List.set_cons_zero, List.set_cons_succ]
  refine qb_run (.bool false) (by kernel_rfl) (fun w' hC => by go_simp) ?_
  simp only [Act.put, List.setIfInBounds_toArray, List.set_cons_zero, List.set_cons_succ]
  refine qb_run (.bool false) (by kernel_rfl) (fun w' hC => by go_simp) ?_
  simp only [Act.put, List.setIfInBounds_toArray, List.set_cons_zero, List.set_cons_succ]
  refine qb_mv (.bool false) _ (.inl rfl) (by kernel_rfl) (by rfl) ?_
  simp only [Act.put, List.setIfInBounds_toArray, List.set_cons_zero, List.set_cons_succ]
  refine qb_mv (.int .i64 (-1)) _ (.inl rfl) (by kernel_rfl) (by rfl) ?_
  simp only [Act.put, List.setIfInBounds_toArray, List.set_cons_zero, List.set_cons_succ]
  refine qb_run (.bool true) (by kernel_rfl) (fun w' hC => by go_simp) ?_
  simp only [Act.put, List.setIfInBounds_toArray, List.set_cons_zero, List.set_cons_succ]
  refine qb_mv (.bool true) _ (.inl rfl) (by kernel_rfl) (by rfl) ?_
  simp only [Act.put, List.setIfInBounds_toArray, List.set_cons_zero, List.set_cons_succ]
  refine qb_run (vI y) (by kernel_rfl) (fun w' hC => by obtain ⟨q0, q1⟩ := (t4.below hC t4.lt).cells2; go_simp) ?_
  simp only [Act.put, List.setIfInBounds_toArray, List.set_cons_zero, List.set_cons_succ]
  refine qb_run (vI z) (by kernel_rfl) (fun w' hC => by obtain ⟨q0, q1⟩ := (t5.below hC t5.lt).cells2; go_simp) ?_
  simp only [Act.put, List.setIfInBounds_toArray, List.set_cons_zero, List.set_cons_succ]
  refine qb_call (.int .i64 kbc) 20 #[vI y, vI z] (by kernel_rfl) (fun w' => by go_simp) (fun w' hC => (C3.out w').mono (fun e w'' h => ⟨h.1, hC.step h.2⟩)) ?_
  simp only [Act.put, List.setIfInBounds_toArray, List.set_cons_zero, List.set_cons_succ]
  refine qb_run (.bool false) (by kernel_rfl) (fun w' hC => by go_simp) ?_
  simp only [Act.put, List.setIfInBounds_toArray, List.set_cons_zero, List.set_cons_succ]
  refine qb_run (.bool false) (by kernel_rfl) (fun w' hC => by go_simp) ?_
  simp only [Act.put, List.setIfInBounds_toArray, List.set_cons_zero, List.set_cons_succ]
  refine qb_mv (.bool false) _ (.inl rfl) (by kernel_rfl) (by rfl) ?_
  simp only [Act.put, List.setIfInBounds_toArray, List.set_cons_zero, List.set_cons_succ]
  refine qb_skip (by kernel_rfl) ?_
  simp only [Act.put, List.setIfInBounds_toArray, List.set_cons_zero, List.set_cons_succ]
  refine qb_skip (by kernel_rfl) ?_
  simp only [Act.put, List.setIfInBounds_toArray, List.set_cons_zero, List.set_cons_succ]
  refine qb_skip (by kernel_rfl) ?_
  simp only [Act.put, List.setIfInBounds_toArray, List.set_cons_zero, List.set_cons_succ]
  refine qb_skip (by kernel_rfl) ?_
  simp only [Act.put, List.setIfInBounds_toArray, List.set_cons_zero, List.set_cons_succ]
  refine qb_run (.bool false) (by kernel_rfl) (fun w' hC => by go_simp) ?_
  simp only [Act.put, List.setIfInBounds_toArray, List.set_cons_zero, List.set_cons_succ]
  refine qb_run (.bool false) (by kernel_rfl) (fun w' hC => by go_simp) ?_
  simp only [Act.put, List.setIfInBounds_toArray, List.set_cons_zero, List.set_cons_succ]
  refine qb_mv (.bool false) _ (.inl rfl) (by kernel_rfl) (by rfl) ?_
  simp only [Act.put, List.setIfInBounds_toArray, List.set_cons_zero, List.set_cons_succ]
  refine qb_run (vI x) (by kernel_rfl) (fun w' hC => by obtain ⟨q0, q1⟩ := (t3.below hC t3.lt).cells2; go_simp) ?_
  simp only [Act.put, List.setIfInBounds_toArray, List.set_cons_zero, List.set_cons_succ]
  refine qb_run (vI z) (by kernel_rfl) (fun w' hC => by obtain ⟨q0, q1⟩ := (t5.below hC t5.lt).cells2; go_simp) ?_
  simp only [Act.put, List.setIfInBounds_toArray, List.set_cons_zero, List.set_cons_succ]
  refine qb_call (vI xz) 13 #[vI x, vI z] (by kernel_rfl) (fun w' => by go_simp) (fun w' hC => (A1.out w').mono (fun e w'' h => ⟨h.1, hC.step h.2⟩)) ?_
  simp only [Act.put, List.setIfInBounds_toArray, List.set_cons_zero, List.set_cons_succ]
  refine qb_run (vI y) (by kernel_rfl) (fun w' hC => by obtain ⟨q0, q1⟩ := (t4.below hC t4.lt).cells2; go_simp) ?_
  simp only [Act.put, List.setIfInBounds_toArray, List.set_cons_zero, List.set_cons_succ]
  refine qb_run (vI z) (by kernel_rfl) (fun w' hC => by obtain ⟨q0, q1⟩ := (t5.below hC t5.lt).cells2; go_simp) ?_
  simp only [Act.put, List.setIfInBounds_toArray, List.set_cons_zero, List.set_cons_succ]
  refine qb_call (vI yz) 13 #[vI y, vI z] (by kernel_rfl) (fun w' => by go_simp) (fun w' hC => (A2.out w').mono (fun e w'' h => ⟨h.1, hC.step h.2⟩)) ?_
  simp only [Act.put, List.setIfInBounds_toArray, List.set_cons_zero, List.set_cons_succ]
  refine qb_call (.int .i64 (-1)) 20 #[vI xz, vI yz] (by kernel_rfl) (fun w' => by go_simp) (fun w' hC => (C5.out w').mono (fun e w'' h => ⟨h.1, hC.step h.2⟩)) ?_
  simp only [Act.put, List.setIfInBounds_toArray, List.set_cons_zero, List.set_cons_succ]
  refine qb_mv (.int .i64 (-1)) _ (.inl rfl) (by kernel_rfl) (by rfl) ?_
  simp only [Act.put, List.setIfInBounds_toArray, List.set_cons_zero, List.set_cons_succ]
  refine qb_run (.bool false) (by kernel_rfl) (fun w' hC => by go_simp) ?_
  simp only [Act.put, List.setIfInBounds_toArray, List.set_cons_zero, List.set_cons_succ]
  refine qb_run (.bool false) (by kernel_rfl) (fun w' hC => by go_simp) ?_
  simp only [Act.put, List.setIfInBounds_toArray, List.set_cons_zero, List.set_cons_succ]
  refine qb_mv (.bool false) _ (.inl rfl) (by kernel_rfl) (by rfl) ?_
  simp only [Act.put, List.setIfInBounds_toArray, List.set_cons_zero, List.set_cons_succ]
  refine qb_run (vI x) (by kernel_rfl) (fun w' hC => by obtain ⟨q0, q1⟩ := (t3.below hC t3.lt).cells2; go_simp) ?_
  simp only [Act.put, List.setIfInBounds_toArray, List.set_cons_zero, List.set_cons_succ]
  refine qb_run (vI y) (by kernel_rfl) (fun w' hC => by obtain ⟨q0, q1⟩ := (t4.below hC t4.lt).cells2; go_simp) ?_
  simp only [Act.put, List.setIfInBounds_toArray, List.set_cons_zero, List.set_cons_succ]
  refine qb_call (vI e) 15 #[vI x, vI y] (by kernel_rfl) (fun w' => by go_simp) (fun w' hC => (S1.out w').mono (fun e w'' h => ⟨h.1, hC.step h.2⟩)) ?_
  simp only [Act.put, List.setIfInBounds_toArray, List.set_cons_zero, List.set_cons_succ]
  refine qb_call (.int .i64 (-1)) 19 #[vI e] (by kernel_rfl) (fun w' => by go_simp) (fun w' hC => (G1.out w').mono (fun e w'' h => ⟨h.1, hC.step h.2⟩)) ?_
  simp only [Act.put, List.setIfInBounds_toArray, List.set_cons_zero, List.set_cons_succ]
  refine qb_mv (.int .i64 (-1)) _ (.inl rfl) (by kernel_rfl) (by rfl) ?_
  simp only [Act.put, List.setIfInBounds_toArray, List.set_cons_zero, List.set_cons_succ]
  refine qb_run (.bool false) (by kernel_rfl) (fun w' hC => by go_simp) ?_
  simp only [Act.put, List.setIfInBounds_toArray, List.set_cons_zero, List.set_cons_succ]
  refine qb_run (.bool false) (by kernel_rfl) (fun w' hC => by go_simp) ?_
  simp only [Act.put, List.setIfInBounds_toArray, List.set_cons_zero, List.set_cons_succ]
  refine wpQuiet_nil (fun W6 hb => ?_)
  have t3 := t3.below hb t3.lt
  have t4 := t4.below hb t4.lt
  have t5 := t5.below hb t5.lt
  have t13 := t13.below hb t13.lt
  have bl := bl.trans (Below.mono hb bl.size)
  clear hb
  go_wp2_with fail
  refine region_qb (by kernel_rfl) (by kernel_rfl) ?_
  refine qb_run (vI z) (by kernel_rfl) (fun w' hC => by obtain ⟨q0, q1⟩ := (t5.below hC t5.lt).cells2; go_simp) ?_
  simp only [Act.put, List.setIfInBounds_toArray, List.set_cons_zero, List.set_cons_succ]
  refine qb_call (.int .i64 sc) 19 #[vI z] (by kernel_rfl) (fun w' => by go_simp) (fun w' hC => (G2.out w').mono (fun e w'' h => ⟨h.1, hC.step h.2⟩)) ?_
  simp only [Act.put, List.setIfInBounds_toArray, List.set_cons_zero, List.set_cons_succ]
  refine qb_run (.bool true) (by kernel_rfl) (fun w' hC => by go_simp) ?_
  simp only [Act.put, List.setIfInBounds_toArray, List.set_cons_zero, List.set_cons_succ]
  refine qb_mv (.bool true) _ (.inl rfl) (by kernel_rfl) (by rfl) ?_
  simp only [Act.put, List.setIfInBounds_toArray, List.set_cons_zero, List.set_cons_succ]
  refine qb_run (vI x) (by kernel_rfl) (fun w' hC => by obtain ⟨q0, q1⟩ := (t3.below hC t3.lt).cells2; go_simp) ?_
  simp only [Act.put, List.setIfInBounds_toArray, List.set_cons_zero, List.set_cons_succ]
  refine qb_run (vI z) (by kernel_rfl) (fun w' hC => by obtain ⟨q0, q1⟩ := (t5.below hC t5.lt).cells2; go_simp) ?_
  simp only [Act.put, List.setIfInBounds_toArray, List.set_cons_zero, List.set_cons_succ]
  refine qb_call (vI p) 14 #[vI x, vI z] (by kernel_rfl) (fun w' => by go_simp) (fun w' hC => (M1.out w').mono (fun e w'' h => ⟨h.1, hC.step h.2⟩)) ?_
  simp only [Act.put, List.setIfInBounds_toArray, List.set_cons_zero, List.set_cons_succ]
  refine qb_run (vI y) (by kernel_rfl) (fun w' hC => by obtain ⟨q0, q1⟩ := (t4.below hC t4.lt).cells2; go_simp) ?_
  simp only [Act.put, List.setIfInBounds_toArray, List.set_cons_zero, List.set_cons_succ]
  refine qb_run (vI z) (by kernel_rfl) (fun w' hC => by obtain ⟨q0, q1⟩ := (t5.below hC t5.lt).cells2; go_simp) ?_
  simp only [Act.put, List.setIfInBounds_toArray, List.set_cons_zero, List.set_cons_succ]
  refine qb_call (vI q) 14 #[vI y, vI z] (by kernel_rfl) (fun w' => by go_simp) (fun w' hC => (M2.out w').mono (fun e w'' h => ⟨h.1, hC.step h.2⟩)) ?_
  simp only [Act.put, List.setIfInBounds_toArray, List.set_cons_zero, List.set_cons_succ]
  refine qb_call (.int .i64 (-1)) 20 #[vI p, vI q] (by kernel_rfl) (fun w' => by go_simp) (fun w' hC => (C6.out w').mono (fun e w'' h => ⟨h.1, hC.step h.2⟩)) ?_
  simp only [Act.put, List.setIfInBounds_toArray, List.set_cons_zero, List.set_cons_succ]
  refine qb_mv (.int .i64 (-1)) _ (.inl rfl) (by kernel_rfl) (by rfl) ?_
  simp only [Act.put, List.setIfInBounds_toArray, List.set_cons_zero, List.set_cons_succ]
  refine qb_run (.bool false) (by kernel_rfl) (fun w' hC => by go_simp) ?_
  simp only [Act.put, List.setIfInBounds_toArray, List.set_cons_zero, List.set_cons_succ]
  refine qb_run (.bool false) (by kernel_rfl) (fun w' hC => by go_simp) ?_
  simp only [Act.put, List.setIfInBounds_toArray, List.set_cons_zero, List.set_cons_succ]
  refine wpQuiet_nil (fun W7 hb => ?_)
  have t3 := t3.below hb t3.lt
  have t4 := t4.below hb t4.lt
  have t5 := t5.below hb t5.lt
  have t13 := t13.below hb t13.lt
  have bl := bl.trans (Below.mono hb bl.size)
  clear hb
  go_wp2_with fail
  refine region_qb (by kernel_rfl) (by kernel_rfl) ?_
  refine qb_run (vI x) (by kernel_rfl) (fun w' hC => by obtain ⟨q0, q1⟩ := (t3.below hC t3.lt).cells2; go_simp) ?_
  simp only [Act.put, List.setIfInBounds_toArray, List.set_cons_zero, List.set_cons_succ]
  refine qb_run (vI x) (by kernel_rfl) (fun w' hC => by obtain ⟨q0, q1⟩ := (t3.below hC t3.lt).cells2; go_simp) ?_
  simp only [Act.put, List.setIfInBounds_toArray, List.set_cons_zero, List.set_cons_succ]
  refine qb_call (vI xx) 13 #[vI x, vI x] (by kernel_rfl) (fun w' => by go_simp) (fun w' hC => (A3.out w').mono (fun e w'' h => ⟨h.1, hC.step h.2⟩)) ?_
  simp only [Act.put, List.setIfInBounds_toArray, List.set_cons_zero, List.set_cons_succ]
  refine qb_call (.int .i64 (bi + mb)) 21 #[vI xx] (by kernel_rfl) (fun w' => by go_simp) (fun w' hC => (B1.out w').mono (fun e w'' h => ⟨h.1, hC.step h.2⟩)) ?_
  simp only [Act.put, List.setIfInBounds_toArray, List.set_cons_zero, List.set_cons_succ]
  refine qb_run (vI x) (by kernel_rfl) (fun w' hC => by obtain ⟨q0, q1⟩ := (t3.below hC t3.lt).cells2; go_simp) ?_
  simp only [Act.put, List.setIfInBounds_toArray, List.set_cons_zero, List.set_cons_succ]
  refine qb_call (.int .i64 bi) 21 #[vI x] (by kernel_rfl) (fun w' => by go_simp) (fun w' hC => (B2.out w').mono (fun e w'' h => ⟨h.1, hC.step h.2⟩)) ?_
  simp only [Act.put, List.setIfInBounds_toArray, List.set_cons_zero, List.set_cons_succ]
  refine qb_run (vI x) (by kernel_rfl) (fun w' hC => by obtain ⟨q0, q1⟩ := (t3.below hC t3.lt).cells2; go_simp) ?_
  simp only [Act.put, List.setIfInBounds_toArray, List.set_cons_zero, List.set_cons_succ]
  refine qb_call (.int .i64 bi) 21 #[vI x] (by kernel_rfl) (fun w' => by go_simp) (fun w' hC => (B2.out w').mono (fun e w'' h => ⟨h.1, hC.step h.2⟩)) ?_
  simp only [Act.put, List.setIfInBounds_toArray, List.set_cons_zero, List.set_cons_succ]
  refine qb_run (.int .i64 mb) (by kernel_rfl) (fun w' hC => by have h1 := HMB.out; go_simp) ?_
  simp only [Act.put, List.setIfInBounds_toArray, List.set_cons_zero, List.set_cons_succ]
  refine qb_run (.int .i64 (bi + mb)) (by kernel_rfl) (fun w' hC => by have h1 := HWB.out; go_simp) ?_
  simp only [Act.put, List.setIfInBounds_toArray, List.set_cons_zero, List.set_cons_succ]
  refine qb_run (.bool true) (by kernel_rfl) (fun w' hC => by go_simp) ?_
  simp only [Act.put, List.setIfInBounds_toArray, List.set_cons_zero, List.set_cons_succ]
  refine qb_mv (.bool true) _ (.inr rfl) (by kernel_rfl) (by rfl) ?_
  simp only [Act.put, List.setIfInBounds_toArray, List.set_cons_zero, List.set_cons_succ]
  refine wpQuiet_nil (fun W8 hb => ?_)
  have t3 := t3.below hb t3.lt
  have t4 := t4.below hb t4.lt
  have t5 := t5.below hb t5.lt
  have t13 := t13.below hb t13.lt
  have bl := bl.trans (Below.mono hb bl.size)
  clear hb
  go_wp2_with fail
  go_ret
  exact ⟨rfl, bl⟩

set_option maxHeartbeats 4000000 in
set_option maxRecDepth 100000 in
theorem Order_lt2p (x y z xz yz e p q xx : Int) (kbc kac sc bi mb : Int) (w : World)
    (HAW : ∀ W, Below w.heap.size w W → Calls Tryd.prog 10 #[] W (RetB true W))
    (HRI : ∀ (A : Option Addr) n W, RdI W A [(sg x, mg x), (sg y, mg y), (sg z, mg z)] → Calls Tryd.prog 11 #[.slice A 3 n] W (RetB true W))
    (C1 : ∀ W, Calls Tryd.prog 20 #[vI x, vI y] W (RetN (-1) W))
    (C2 : ∀ W, Calls Tryd.prog 20 #[vI y, vI x] W (RetN (1) W))
    (C3 : ∀ W, Calls Tryd.prog 20 #[vI y, vI z] W (RetN kbc W))
    (h3 : kbc ≤ 0)
    (C4 : ∀ W, Calls Tryd.prog 20 #[vI x, vI z] W (RetN kac W))
    (h4 : kac ≤ 0)
    (A1 : ∀ W, Calls Tryd.prog 13 #[vI x, vI z] W (RetI xz W))
    (A2 : ∀ W, Calls Tryd.prog 13 #[vI y, vI z] W (RetI yz W))
    (C5 : ∀ W, Calls Tryd.prog 20 #[vI xz, vI yz] W (RetN (-1) W))
    (S1 : ∀ W, Calls Tryd.prog 15 #[vI x, vI y] W (RetI e W))
    (G1 : ∀ W, Calls Tryd.prog 19 #[vI e] W (RetN (-1) W))
    (G2 : ∀ W, Calls Tryd.prog 19 #[vI z] W (RetN sc W))
    (h5 : 0 < sc)
    (M1 : ∀ W, Calls Tryd.prog 14 #[vI x, vI z] W (RetI p W))
    (M2 : ∀ W, Calls Tryd.prog 14 #[vI y, vI z] W (RetI q W))
    (C6 : ∀ W, Calls Tryd.prog 20 #[vI p, vI q] W (RetN (-1) W))
    (A3 : ∀ W, Calls Tryd.prog 13 #[vI x, vI x] W (RetI xx W))
    (B1 : ∀ W, Calls Tryd.prog 21 #[vI xx] W (RetN (bi + mb) W))
    (B2 : ∀ W, Calls Tryd.prog 21 #[vI x] W (RetN bi W))
    (HMB : (if bi < 1 then bi else 1) = mb)
    (HWB : IntKind.i64.wrap (bi + mb) = bi + mb)
    (hne : x ≠ y) :
    Calls Tryd.prog 5 #[vI x, vI y, vI z] w (RetB true w) := by
  have HNE := Lib.hid (vI_ne hne)
  clear hne
  replace HAW := Lib.hid HAW
  replace HRI := Lib.hid HRI
  replace C1 := Lib.hid C1
  replace C2 := Lib.hid C2
  replace C3 := Lib.hid C3
  replace C4 := Lib.hid C4
  replace A1 := Lib.hid A1
  replace A2 := Lib.hid A2
  replace C5 := Lib.hid C5
  replace S1 := Lib.hid S1
  replace G1 := Lib.hid G1
  replace G2 := Lib.hid G2
  replace M1 := Lib.hid M1
  replace M2 := Lib.hid M2
  replace C6 := Lib.hid C6
  replace A3 := Lib.hid A3
  replace B1 := Lib.hid B1
  replace B2 := Lib.hid B2
  replace HMB := Lib.hid HMB
  replace HWB := Lib.hid HWB
  go_enter Tryd.func5, Tryd.ntmps5
  go_wp2_with fail
  have t3 := ((Ob.new (w) 23 #[.bool (sg x), .string (mg x)]).alloc (.cells #[.bool (sg y), .string (mg y)] 23)).alloc (.cells #[.bool (sg z), .string (mg z)] 23)
  have t4 := (Ob.new ((w.alloc (.cells #[.bool (sg x), .string (mg x)] 23))) 23 #[.bool (sg y), .string (mg y)]).alloc (.cells #[.bool (sg z), .string (mg z)] 23)
  have t5 := Ob.new (((w.alloc (.cells #[.bool (sg x), .string (mg x)] 23)).alloc (.cells #[.bool (sg y), .string (mg y)] 23))) 23 #[.bool (sg z), .string (mg z)]
  have bl := ((((Below.refl w.heap.size w).alloc (Nat.le_refl _) (.cells #[.bool (sg x), .string (mg x)] 23)).alloc (by simp only [World.size_alloc]; omega) (.cells #[.bool (sg y), .string (mg y)] 23)).alloc (by simp only [World.size_alloc]; omega) (.cells #[.bool (sg z), .string (mg z)] 23))
  try simp only [World.size_alloc] at t3 t4 t5
  generalize World.alloc (World.alloc (World.alloc w _) _) _ = W1 at t3 t4 t5 bl ⊢
  refine (HAW.out W1 bl).mono ?_
  rintro e W2 ⟨rfl, hb⟩
  have t3 := t3.below hb t3.lt
  have t4 := t4.below hb t4.lt
  have t5 := t5.below hb t5.lt
  have bl := bl.trans (Below.mono hb bl.size)
  clear hb
  obtain ⟨c0_0, c0_1⟩ := t3.cells2
  obtain ⟨c1_0, c1_1⟩ := t4.cells2
  obtain ⟨c2_0, c2_1⟩ := t5.cells2
  go_wp2_with fail
  clear c0_0 c0_1 c1_0 c1_1 c2_0 c2_1
  have t3 := (t3.alloc (.cells #[.bool (sg x), .string (mg x), .bool (sg y), .string (mg y), .bool (sg z), .string (mg z)] 23))
  have t4 := (t4.alloc (.cells #[.bool (sg x), .string (mg x), .bool (sg y), .string (mg y), .bool (sg z), .string (mg z)] 23))
  have t5 := (t5.alloc (.cells #[.bool (sg x), .string (mg x), .bool (sg y), .string (mg y), .bool (sg z), .string (mg z)] 23))
  have t13 := Ob.new (W2) 23 #[.bool (sg x), .string (mg x), .bool (sg y), .string (mg y), .bool (sg z), .string (mg z)]
  have bl := (bl.alloc (by have := bl.size; (try simp only [World.size_alloc] at *); omega) (.cells #[.bool (sg x), .string (mg x), .bool (sg y), .string (mg y), .bool (sg z), .string (mg z)] 23))
  try simp only [World.size_alloc] at t3 t4 t5 t13
  generalize hn3 : W2.heap.size = bk3 at t13 ⊢
  clear hn3
  generalize World.alloc W2 _ = W3 at t3 t4 t5 t13 bl ⊢
  refine (HRI.out _ 3 W3 (rdi_3 t13)).mono ?_
  rintro e W4 ⟨rfl, hb⟩
  have t3 := t3.below hb t3.lt
  have t4 := t4.below hb t4.lt
  have t5 := t5.below hb t5.lt
  have t13 := t13.below hb t13.lt
  have bl := bl.trans (Below.mono hb bl.size)
  clear hb
  obtain ⟨c0_0, c0_1⟩ := t3.cells2
  obtain ⟨c1_0, c1_1⟩ := t4.cells2
  go_wp2_with fail
  clear c0_0 c0_1 c1_0 c1_1
  refine (C1.out W4).mono ?_
  rintro e W5 ⟨rfl, hb⟩
  have t3 := t3.below hb t3.lt
  have t4 := t4.below hb t4.lt
  have t5 := t5.below hb t5.lt
  have t13 := t13.below hb t13.lt
  have bl := bl.trans (Below.mono hb bl.size)
  clear hb
  go_wp2_with fail
  refine region_qb (by kernel_rfl) (by kernel_rfl) ?_
  refine qb_mv (.int .i64 (-1)) _ (.inl rfl) (by kernel_rfl) (by rfl) ?_
  simp only [Act.put, List.setIfInBounds_toArray, List.set_cons_zero, List.set_cons_succ]
  refine qb_run (vI y) (by kernel_rfl) (fun w' hC => by obtain ⟨q0, q1⟩ := (t4.below hC t4.lt).cells2; go_simp) ?_
  simp only [Act.put, List.setIfInBounds_toArray, List.set_cons_zero, List.set_cons_succ]
  refine qb_run (vI x) (by kernel_rfl) (fun w' hC => by obtain ⟨q0, q1⟩ := (t3.below hC t3.lt).cells2; go_simp) ?_
  simp only [Act.put, List.setIfInBounds_toArray, List.set_cons_zero, List.set_cons_succ]
  refine qb_call (.int .i64 1) 20 #[vI y, vI x] (by kernel_rfl) (fun w' => by go_simp) (fun w' hC => (C2.out w').mono (fun e w'' h => ⟨h.1, hC.step h.2⟩)) ?_
  simp only [Act.put, List.setIfInBounds_toArray, List.set_cons_zero, List.set_cons_succ]
  refine qb_run (.int .i64 (-1)) (by kernel_rfl) (fun w' hC => by go_simp <;> rfl) ?_
  simp only [Act.put, List.setIfInBounds_toArray, List.set_cons_zero, List.set_cons_succ]
  refine qb_run (.bool false) (by kernel_rfl) (fun w' hC => by go_simp) ?_
  simp only [Act.put, List.setIfInBounds_toArray, List.set_cons_zero, List.set_cons_succ]
  refine qb_mv (.bool false) _ (.inl rfl) (by kernel_rfl) (by rfl) ?_
  simp only [Act.put, List.setIfInBounds_toArray, List.set_cons_zero, List.set_cons_succ]
  refine qb_mv (.int .i64 (-1)) _ (.inl rfl) (by kernel_rfl) (by rfl) ?_
  simp only [Act.put, List.setIfInBounds_toArray, List.set_cons_zero, List.set_cons_succ]
  refine qb_run (.bool false) (by kernel_rfl) (fun w' hC => by go_simp) ?_
  simp only [Act.put, List.setIfInBounds_toArray, List.set_cons_zero, List.set_cons_succ]
  refine qb_run (vI x) (by kernel_rfl) (fun w' hC => by obtain ⟨q0, q1⟩ := (t3.below hC t3.lt).cells2; go_simp) ?_
  simp only [Act.put, List.setIfInBounds_toArray, List.set_cons_zero, List.set_cons_succ]
  refine qb_run (vI y) (by kernel_rfl) (fun w' hC => by obtain ⟨q0, q1⟩ := (t4.below hC t4.lt).cells2; go_simp) ?_
  simp only [Act.put, List.setIfInBounds_toArray, List.set_cons_zero, List.set_cons_succ]
  refine qb_run (.bool false) (by kernel_rfl) (fun w' hC => by go_simp; exact HNE.out) ?_
  simp only [Act.put, List.setIfInBounds_toArray, List.set_cons_zero, List.set_cons_succ]
  refine qb_run (.bool false) (by kernel_rfl) (fun w' hC => by go_simp) ?_
  simp only [Act.put, List.setIfInBounds_toArray, List.set_cons_zero, List.set_cons_succ]
  refine qb_run (.bool false) (by kernel_rfl) (fun w' hC => by go_simp) ?_
  simp only [Act.put, List.setIfInBounds_toArray, List.set_cons_zero, List.set_cons_succ]
  refine qb_mv (.bool false) _ (.inl rfl) (by kernel_rfl) (by rfl) ?_
  simp only [Act.put, List.setIfInBounds_toArray, List.set_cons_zero, List.set_cons_succ]
  refine qb_mv (.int .i64 (-1)) _ (.inl rfl) (by kernel_rfl) (by rfl) ?_
  simp only [Act.put, List.setIfInBounds_toArray, List.set_cons_zero, List.set_cons_succ]
  refine qb_run (.bool true) (by kernel_rfl) (fun w' hC => by go_simp) ?_
  simp only [Act.put, List.setIfInBounds_toArray, List.set_cons_zero, List.set_cons_succ]
  refine qb_mv (.bool true) _ (.inl rfl) (by kernel_rfl) (by rfl) ?_
  simp only [Act.put, List.setIfInBounds_toArray, List.set_cons_zero, List.set_cons_succ]
  refine qb_run (vI y) (by kernel_rfl) (fun w' hC => by obtain ⟨q0, q1⟩ := (t4.below hC t4.lt).cells2; go_simp) ?_
  simp only [Act.put, List.setIfInBounds_toArray, List.set_cons_zero, List.set_cons_succ]
  refine qb_run (vI z) (by kernel_rfl) (fun w' hC => by obtain ⟨q0, q1⟩ := (t5.below hC t5.lt).cells2; go_simp) ?_
  simp only [Act.put, List.setIfInBounds_toArray, List.set_cons_zero, List.set_cons_succ]
  refine qb_call (.int .i64 kbc) 20 #[vI y, vI z] (by kernel_rfl) (fun w' => by go_simp) (fun w' hC => (C3.out w').mono (fun e w'' h => ⟨h.1, hC.step h.2⟩)) ?_
  simp only [Act.put, List.setIfInBounds_toArray, List.set_cons_zero, List.set_cons_succ]
  refine qb_run (.bool true) (by kernel_rfl) (fun w' hC => by go_simp) ?_
  simp only [Act.put, List.setIfInBounds_toArray, List.set_cons_zero, List.set_cons_succ]
  refine qb_run (.bool true) (by kernel_rfl) (fun w' hC => by go_simp) ?_
  simp only [Act.put, List.setIfInBounds_toArray, List.set_cons_zero, List.set_cons_succ]
  refine qb_mv (.bool true) _ (.inl rfl) (by kernel_rfl) (by rfl) ?_
  simp only [Act.put, List.setIfInBounds_toArray, List.set_cons_zero, List.set_cons_succ]
  refine qb_run (vI x) (by kernel_rfl) (fun w' hC => by obtain ⟨q0, q1⟩ := (t3.below hC t3.lt).cells2; go_simp) ?_
  simp only [Act.put, List.setIfInBounds_toArray, List.set_cons_zero, List.set_cons_succ]
  refine qb_run (vI z) (by kernel_rfl) (fun w' hC => by obtain ⟨q0, q1⟩ := (t5.below hC t5.lt).cells2; go_simp) ?_
  simp only [Act.put, List.setIfInBounds_toArray, List.set_cons_zero, List.set_cons_succ]
  refine qb_call (.int .i64 kac) 20 #[vI x, vI z] (by kernel_rfl) (fun w' => by go_simp) (fun w' hC => (C4.out w').mono (fun e w'' h => ⟨h.1, hC.step h.2⟩)) ?_
  simp only [Act.put, List.setIfInBounds_toArray, List.set_cons_zero, List.set_cons_succ]
  refine qb_run (.bool false) (by kernel_rfl) (fun w' hC => by go_simp) ?_
  simp only [Act.put, List.setIfInBounds_toArray, List.set_cons_zero, List.set_cons_succ]
  refine qb_run (.bool false) (by kernel_rfl) (fun w' hC => by go_simp) ?_
  simp only [Act.put, List.setIfInBounds_toArray, List.set_cons_zero, List.set_cons_succ]
  refine qb_run (.bool false) (by kernel_rfl) (fun w' hC => by go_simp) ?_
  simp only [Act.put, List.setIfInBounds_toArray, List.set_cons_zero, List.set_cons_succ]
  refine qb_mv (.bool false) _ (.inl rfl) (by kernel_rfl) (by rfl) ?_
  simp only [Act.put, List.setIfInBounds_toArray, List.set_cons_zero, List.set_cons_succ]
  refine qb_run (vI x) (by kernel_rfl) (fun w' hC => by obtain ⟨q0, q1⟩ := (t3.below hC t3.lt).cells2; go_simp) ?_
  simp only [Act.put, List.setIfInBounds_toArray, List.set_cons_zero, List.set_cons_succ]
  refine qb_run (vI z) (by kernel_rfl) (fun w' hC => by obtain ⟨q0, q1⟩ := (t5.below hC t5.lt).cells2; go_simp) ?_
  simp only [Act.put, List.setIfInBounds_toArray, List.set_cons_zero, List.set_cons_succ]
  refine qb_call (vI xz) 13 #[vI x, vI z] (by kernel_rfl) (fun w' => by go_simp) (fun w' hC => (A1.out w').mono (fun e w'' h => ⟨h.1, hC.step h.2⟩)) ?_
  simp only [Act.put, List.setIfInBounds_toArray, List.set_cons_zero, List.set_cons_succ]
  refine qb_run (vI y) (by kernel_rfl) (fun w' hC => by obtain ⟨q0, q1⟩ := (t4.below hC t4.lt).cells2; go_simp) ?_
  simp only [Act.put, List.setIfInBounds_toArray, List.set_cons_zero, List.set_cons_succ]
  refine qb_run (vI z) (by kernel_rfl) (fun w' hC => by obtain ⟨q0, q1⟩ := (t5.below hC t5.lt).cells2; go_simp) ?_
  simp only [Act.put, List.setIfInBounds_toArray, List.set_cons_zero, List.set_cons_succ]
  refine qb_call (vI yz) 13 #[vI y, vI z] (by kernel_rfl) (fun w' => by go_simp) (fun w' hC => (A2.out w').mono (fun e w'' h => ⟨h.1, hC.step h.2⟩)) ?_
  simp only [Act.put, List.setIfInBounds_toArray, List.set_cons_zero, List.set_cons_succ]
  refine qb_call (.int .i64 (-1)) 20 #[vI xz, vI yz] (by kernel_rfl) (fun w' => by go_simp) (fun w' hC => (C5.out w').mono (fun e w'' h => ⟨h.1, hC.step h.2⟩)) ?_
  simp only [Act.put, List.setIfInBounds_toArray, List.set_cons_zero, List.set_cons_succ]
  refine qb_mv (.int .i64 (-1)) _ (.inl rfl) (by kernel_rfl) (by rfl) ?_
  simp only [Act.put, List.setIfInBounds_toArray, List.set_cons_zero, List.set_cons_succ]
  refine qb_run (.bool false) (by kernel_rfl) (fun w' hC => by go_simp) ?_
  simp only [Act.put, List.setIfInBounds_toArray, List.set_cons_zero, List.set_cons_succ]
  refine qb_run (.bool false) (by kernel_rfl) (fun w' hC => by go_simp) ?_
  simp only [Act.put, List.setIfInBounds_toArray, List.set_cons_zero, List.set_cons_succ]
  refine qb_mv (.bool false) _ (.inl rfl) (by kernel_rfl) (by rfl) ?_
  simp only [Act.put, List.setIfInBounds_toArray, List.set_cons_zero, List.set_cons_succ]
  refine qb_run (vI x) (by kernel_rfl) (fun w' hC => by obtain ⟨q0, q1⟩ := (t3.below hC t3.lt).cells2; go_simp) ?_
  simp only [Act.put, List.setIfInBounds_toArray, List.set_cons_zero, List.set_cons_succ]
  refine qb_run (vI y) (by kernel_rfl) (fun w' hC => by obtain ⟨q0, q1⟩ := (t4.below hC t4.lt).cells2; go_simp) ?_
  simp only [Act.put, List.setIfInBounds_toArray, List.set_cons_zero, List.set_cons_succ]
  refine qb_call (vI e) 15 #[vI x, vI y] (by kernel_rfl) (fun w' => by go_simp) (fun w' hC => (S1.out w').mono (fun e w'' h => ⟨h.1, hC.step h.2⟩)) ?_
  simp only [Act.put, List.setIfInBounds_toArray, List.set_cons_zero, List.set_cons_succ]
  refine qb_call (.int .i64 (-1)) 19 #[vI e] (by kernel_rfl) (fun w' => by go_simp) (fun w' hC => (G1.out w').mono (fun e w'' h => ⟨h.1, hC.step h.2⟩)) ?_
  simp only [Act.put, List.setIfInBounds_toArray, List.set_cons_zero, List.set_cons_succ]
  refine qb_mv (.int .i64 (-1)) _ (.inl rfl) (by kernel_rfl) (by rfl) ?_
  simp only [Act.put, List.setIfInBounds_toArray, List.set_cons_zero, List.set_cons_succ]
  refine qb_run (.bool false) (by kernel_rfl) (fun w' hC => by go_simp) ?_
  simp only [Act.put, List.setIfInBounds_toArray, List.set_cons_zero, List.set_cons_succ]
  refine qb_run (.bool false) (by kernel_rfl) (fun w' hC => by go_simp) ?_
  simp only [Act.put, List.setIfInBounds_toArray, List.set_cons_zero, List.set_cons_succ]
  refine wpQuiet_nil (fun W6 hb => ?_)
  have t3 := t3.below hb t3.lt
  have t4 := t4.below hb t4.lt
  have t5 := t5.below hb t5.lt
  have t13 := t13.below hb t13.lt
  have bl := bl.trans (Below.mono hb bl.size)
  clear hb
  go_wp2_with fail
  refine region_qb (by kernel_rfl) (by kernel_rfl) ?_
  refine qb_run (vI z) (by kernel_rfl) (fun w' hC => by obtain ⟨q0, q1⟩ := (t5.below hC t5.lt).cells2; go_simp) ?_
  simp only [Act.put, List.setIfInBounds_toArray, List.set_cons_zero, List.set_cons_succ]
  refine qb_call (.int .i64 sc) 19 #[vI z] (by kernel_rfl) (fun w' => by go_simp) (fun w' hC => (G2.out w').mono (fun e w'' h => ⟨h.1, hC.step h.2⟩)) ?_
  simp only [Act.put, List.setIfInBounds_toArray, List.set_cons_zero, List.set_cons_succ]
  refine qb_run (.bool true) (by kernel_rfl) (fun w' hC => by go_simp) ?_
  simp only [Act.put, List.setIfInBounds_toArray, List.set_cons_zero, List.set_cons_succ]
  refine qb_mv (.bool true) _ (.inl rfl) (by kernel_rfl) (by rfl) ?_
  simp only [Act.put, List.setIfInBounds_toArray, List.set_cons_zero, List.set_cons_succ]
  refine qb_run (vI x) (by kernel_rfl) (fun w' hC => by obtain ⟨q0, q1⟩ := (t3.below hC t3.lt).cells2; go_simp) ?_
  simp only [Act.put, List.setIfInBounds_toArray, List.set_cons_zero, List.set_cons_succ]
  refine qb_run (vI z) (by kernel_rfl) (fun w' hC => by obtain ⟨q0, q1⟩ := (t5.below hC t5.lt).cells2; go_simp) ?_
  simp only [Act.put, List.setIfInBounds_toArray, List.set_cons_zero, List.set_cons_succ]
  refine qb_call (vI p) 14 #[vI x, vI z] (by kernel_rfl) (fun w' => by go_simp) (fun w' hC => (M1.out w').mono (fun e w'' h => ⟨h.1, hC.step h.2⟩)) ?_
  simp only [Act.put, List.setIfInBounds_toArray, List.set_cons_zero, List.set_cons_succ]
  refine qb_run (vI y) (by kernel_rfl) (fun w' hC => by obtain ⟨q0, q1⟩ := (t4.below hC t4.lt).cells2; go_simp) ?_
  simp only [Act.put, List.setIfInBounds_toArray, List.set_cons_zero, List.set_cons_succ]
  refine qb_run (vI z) (by kernel_rfl) (fun w' hC => by obtain ⟨q0, q1⟩ := (t5.below hC t5.lt).cells2; go_simp) ?_
  simp only [Act.put, List.setIfInBounds_toArray, List.set_cons_zero, List.set_cons_succ]
  refine qb_call (vI q) 14 #[vI y, vI z] (by kernel_rfl) (fun w' => by go_simp) (fun w' hC => (M2.out w').mono (fun e w'' h => ⟨h.1, hC.step h.2⟩)) ?_
  simp only [Act.put, List.setIfInBounds_toArray, List.set_cons_zero, List.set_cons_succ]
  refine qb_call (.int .i64 (-1)) 20 #[vI p, vI q] (by kernel_rfl) (fun w' => by go_simp) (fun w' hC => (C6.out w').mono (fun e w'' h => ⟨h.1, hC.step h.2⟩)) ?_
  simp only [Act.put, List.setIfInBounds_toArray, List.set_cons_zero, List.set_cons_succ]
  refine qb_mv (.int .i64 (-1)) _ (.inl rfl) (by kernel_rfl) (by rfl) ?_
  simp only [Act.put, List.setIfInBounds_toArray, List.set_cons_zero, List.set_cons_succ]
  refine qb_run (.bool false) (by kernel_rfl) (fun w' hC => by go_simp) ?_
  simp only [Act.put, List.setIfInBounds_toArray, List.set_cons_zero, List.set_cons_succ]
  refine qb_run (.bool false) (by kernel_rfl) (fun w' hC => by go_simp) ?_
  simp only [Act.put, List.setIfInBounds_toArray, List.set_cons_zero, List.set_cons_succ]
  refine wpQuiet_nil (fun W7 hb => ?_)
  have t3 := t3.below hb t3.lt
  have t4 := t4.below hb t4.lt
  have t5 := t5.below hb t5.lt
  have t13 := t13.below hb t13.lt
  have bl := bl.trans (Below.mono hb bl.size)
  clear hb
  go_wp2_with fail
  refine region_qb (by kernel_rfl) (by kernel_rfl) ?_
  refine qb_run (vI x) (by kernel_rfl) (fun w' hC => by obtain ⟨q0, q1⟩ := (t3.below hC t3.lt).cells2; go_simp) ?_
  simp only [Act.put, List.setIfInBounds_toArray, List.set_cons_zero, List.set_cons_succ]
  refine qb_run (vI x) (by kernel_rfl) (fun w' hC => by obtain ⟨q0, q1⟩ := (t3.below hC t3.lt).cells2; go_simp) ?_
  simp only [Act.put, List.setIfInBounds_toArray, List.set_cons_zero, List.set_cons_succ]
  refine qb_call (vI xx) 13 #[vI x, vI x] (by kernel_rfl) (fun w' => by go_simp) (fun w' hC => (A3.out w').mono (fun e w'' h => ⟨h.1, hC.step h.2⟩)) ?_
  simp only [Act.put, List.setIfInBounds_toArray, List.set_cons_zero, List.set_cons_succ]
  refine qb_call (.int .i64 (bi + mb)) 21 #[vI xx] (by kernel_rfl) (fun w' => by go_simp) (fun w' hC => (B1.out w').mono (fun e w'' h => ⟨h.1, hC.step h.2⟩)) ?_
  simp only [Act.put, List.setIfInBounds_toArray, List.set_cons_zero, List.set_cons_succ]
  refine qb_run (vI x) (by kernel_rfl) (fun w' hC => by obtain ⟨q0, q1⟩ := (t3.below hC t3.lt).cells2; go_simp) ?_
  simp only [Act.put, List.setIfInBounds_toArray, List.set_cons_zero, List.set_cons_succ]
  refine qb_call (.int .i64 bi) 21 #[vI x] (by kernel_rfl) (fun w' => by go_simp) (fun w' hC => (B2.out w').mono (fun e w'' h => ⟨h.1, hC.step h.2⟩)) ?_
  simp only [Act.put, List.setIfInBounds_toArray, List.set_cons_zero, List.set_cons_succ]
  refine qb_run (vI x) (by kernel_rfl) (fun w' hC => by obtain ⟨q0, q1⟩ := (t3.below hC t3.lt).cells2; go_simp) ?_
  simp only [Act.put, List.setIfInBounds_toArray, List.set_cons_zero, List.set_cons_succ]
  refine qb_call (.int .i64 bi) 21 #[vI x] (by kernel_rfl) (fun w' => by go_simp) (fun w' hC => (B2.out w').mono (fun e w'' h => ⟨h.1, hC.step h.2⟩)) ?_
  simp only [Act.put, List.setIfInBounds_toArray, List.set_cons_zero, List.set_cons_succ]
  refine qb_run (.int .i64 mb) (by kernel_rfl) (fun w' hC => by have h1 := HMB.out; go_simp) ?_
  simp only [Act.put, List.setIfInBounds_toArray, List.set_cons_zero, List.set_cons_succ]
  refine qb_run (.int .i64 (bi + mb)) (by kernel_rfl) (fun w' hC => by have h1 := HWB.out; go_simp) ?_
  simp only [Act.put, List.setIfInBounds_toArray, List.set_cons_zero, List.set_cons_succ]
  refine qb_run (.bool true) (by kernel_rfl) (fun w' hC => by go_simp) ?_
  simp only [Act.put, List.setIfInBounds_toArray, List.set_cons_zero, List.set_cons_succ]
  refine qb_mv (.bool true) _ (.inr rfl) (by kernel_rfl) (by rfl) ?_
  simp only [Act.put, List.setIfInBounds_toArray, List.set_cons_zero, List.set_cons_succ]
  refine wpQuiet_nil (fun W8 hb => ?_)
  have t3 := t3.below hb t3.lt
  have t4 := t4.below hb t4.lt
  have t5 := t5.below hb t5.lt
  have t13 := t13.below hb t13.lt
  have bl := bl.trans (Below.mono hb bl.size)
  clear hb
  go_wp2_with fail
  go_ret
  exact ⟨rfl, bl⟩

set_option maxHeartbeats 4000000 in
set_option maxRecDepth 100000 in
theorem Order_eq1p (x z xz yz e p q xx : Int) (kbc kac sc bi mb : Int) (w : World)
    (HAW : ∀ W, Below w.heap.size w W → Calls Tryd.prog 10 #[] W (RetB true W))
    (HRI : ∀ (A : Option Addr) n W, RdI W A [(sg x, mg x), (sg x, mg x), (sg z, mg z)] → Calls Tryd.prog 11 #[.slice A 3 n] W (RetB true W))
    (C1 : ∀ W, Calls Tryd.prog 20 #[vI x, vI x] W (RetN (0) W))
    (C3 : ∀ W, Calls Tryd.prog 20 #[vI x, vI z] W (RetN kbc W))
    (h3 : 0 < kbc)
    (A1 : ∀ W, Calls Tryd.prog 13 #[vI x, vI z] W (RetI xz W))
    (C5 : ∀ W, Calls Tryd.prog 20 #[vI xz, vI xz] W (RetN (0) W))
    (S1 : ∀ W, Calls Tryd.prog 15 #[vI x, vI x] W (RetI e W))
    (G1 : ∀ W, Calls Tryd.prog 19 #[vI e] W (RetN (0) W))
    (G2 : ∀ W, Calls Tryd.prog 19 #[vI z] W (RetN sc W))
    (h5 : 0 < sc)
    (M1 : ∀ W, Calls Tryd.prog 14 #[vI x, vI z] W (RetI p W))
    (C6 : ∀ W, Calls Tryd.prog 20 #[vI p, vI p] W (RetN (0) W))
    (A3 : ∀ W, Calls Tryd.prog 13 #[vI x, vI x] W (RetI xx W))
    (B1 : ∀ W, Calls Tryd.prog 21 #[vI xx] W (RetN (bi + mb) W))
    (B2 : ∀ W, Calls Tryd.prog 21 #[vI x] W (RetN bi W))
    (HMB : (if bi < 1 then bi else 1) = mb)
    (HWB : IntKind.i64.wrap (bi + mb) = bi + mb) :
    Calls Tryd.prog 5 #[vI x, vI x, vI z] w (RetB true w) := by
  replace HAW := Lib.hid HAW
  replace HRI := Lib.hid HRI
  replace C1 := Lib.hid C1
  replace C3 := Lib.hid C3
  replace A1 := Lib.hid A1
  replace C5 := Lib.hid C5
  replace S1 := Lib.hid S1
  replace G1 := Lib.hid G1
  replace G2 := Lib.hid G2
  replace M1 := Lib.hid M1
  replace C6 := Lib.hid C6
  replace A3 := Lib.hid A3
  replace B1 := Lib.hid B1
  replace B2 := Lib.hid B2
  replace HMB := Lib.hid HMB
  replace HWB := Lib.hid HWB
  go_enter Tryd.func5, Tryd.ntmps5
  go_wp2_with fail
  have t3 := ((Ob.new (w) 23 #[.bool (sg x), .string (mg x)]).alloc (.cells #[.bool (sg x), .string (mg x)] 23)).alloc (.cells #[.bool (sg z), .string (mg z)] 23)
  have t4 := (Ob.new ((w.alloc (.cells #[.bool (sg x), .string (mg x)] 23))) 23 #[.bool (sg x), .string (mg x)]).alloc (.cells #[.bool (sg z), .string (mg z)] 23)
  have t5 := Ob.new (((w.alloc (.cells #[.bool (sg x), .string (mg x)] 23)).alloc (.cells #[.bool (sg x), .string (mg x)] 23))) 23 #[.bool (sg z), .string (mg z)]
  have bl := ((((Below.refl w.heap.size w).alloc (Nat.le_refl _) (.cells #[.bool (sg x), .string (mg x)] 23)).alloc (by simp only [World.size_alloc]; omega) (.cells #[.bool (sg x), .string (mg x)] 23)).alloc (by simp only [World.size_alloc]; omega) (.cells #[.bool (sg z), .string (mg z)] 23))
  try simp only [World.size_alloc] at t3 t4 t5
  generalize World.alloc (World.alloc (World.alloc w _) _) _ = W1 at t3 t4 t5 bl ⊢
  refine (HAW.out W1 bl).mono ?_
  rintro e W2 ⟨rfl, hb⟩
  have t3 := t3.below hb t3.lt
  have t4 := t4.below hb t4.lt
  have t5 := t5.below hb t5.lt
  have bl := bl.trans (Below.mono hb bl.size)
  clear hb
  obtain ⟨c0_0, c0_1⟩ := t3.cells2
  obtain ⟨c1_0, c1_1⟩ := t4.cells2
  obtain ⟨c2_0, c2_1⟩ := t5.cells2
  go_wp2_with fail
  clear c0_0 c0_1 c1_0 c1_1 c2_0 c2_1
  have t3 := (t3.alloc (.cells #[.bool (sg x), .string (mg x), .bool (sg x), .string (mg x), .bool (sg z), .string (mg z)] 23))
  have t4 := (t4.alloc (.cells #[.bool (sg x), .string (mg x), .bool (sg x), .string (mg x), .bool (sg z), .string (mg z)] 23))
  have t5 := (t5.alloc (.cells #[.bool (sg x), .string (mg x), .bool (sg x), .string (mg x), .bool (sg z), .string (mg z)] 23))
  have t13 := Ob.new (W2) 23 #[.bool (sg x), .string (mg x), .bool (sg x), .string (mg x), .bool (sg z), .string (mg z)]
  have bl := (bl.alloc (by have := bl.size; (try simp only [World.size_alloc] at *); omega) (.cells #[.bool (sg x), .string (mg x), .bool (sg x), .string (mg x), .bool (sg z), .string (mg z)] 23))
  try simp only [World.size_alloc] at t3 t4 t5 t13
  generalize hn3 : W2.heap.size = bk3 at t13 ⊢
  clear hn3
  generalize World.alloc W2 _ = W3 at t3 t4 t5 t13 bl ⊢
  refine (HRI.out _ 3 W3 (rdi_3 t13)).mono ?_
  rintro e W4 ⟨rfl, hb⟩
  have t3 := t3.below hb t3.lt
  have t4 := t4.below hb t4.lt
  have t5 := t5.below hb t5.lt
  have t13 := t13.below hb t13.lt
  have bl := bl.trans (Below.mono hb bl.size)
  clear hb
  obtain ⟨c0_0, c0_1⟩ := t3.cells2
  obtain ⟨c1_0, c1_1⟩ := t4.cells2
  go_wp2_with fail
  clear c0_0 c0_1 c1_0 c1_1
  refine (C1.out W4).mono ?_
  rintro e W5 ⟨rfl, hb⟩
  have t3 := t3.below hb t3.lt
  have t4 := t4.below hb t4.lt
  have t5 := t5.below hb t5.lt
  have t13 := t13.below hb t13.lt
  have bl := bl.trans (Below.mono hb bl.size)
  clear hb
  go_wp2_with fail
  refine region_qb (by kernel_rfl) (by kernel_rfl) ?_
  refine qb_mv (.int .i64 0) _ (.inl rfl) (by kernel_rfl) (by rfl) ?_
  simp only [Act.put, List.setIfInBounds_toArray, List.set_cons_zero, List.set_cons_succ]
  refine qb_run (vI x) (by kernel_rfl) (fun w' hC => by obtain ⟨q0, q1⟩ := (t4.below hC t4.lt).cells2; go_simp) ?_
  simp only [Act.put, List.setIfInBounds_toArray, List.set_cons_zero, List.set_cons_succ]
  refine qb_run (vI x) (by kernel_rfl) (fun w' hC => by obtain ⟨q0, q1⟩ := (t3.below hC t3.lt).cells2; go_simp) ?_
  simp only [Act.put, List.setIfInBounds_toArray, List.set_cons_zero, List.set_cons_succ]
  refine qb_call (.int .i64 0) 20 #[vI x, vI x] (by kernel_rfl) (fun w' => by go_simp) (fun w' hC => (C1.out w').mono (fun e w'' h => ⟨h.1, hC.step h.2⟩)) ?_
  simp only [Act.put, List.setIfInBounds_toArray, List.set_cons_zero, List.set_cons_succ]
  refine qb_run (.int .i64 0) (by kernel_rfl) (fun w' hC => by go_simp <;> rfl) ?_
  simp only [Act.put, List.setIfInBounds_toArray, List.set_cons_zero, List.set_cons_succ]
  refine qb_run (.bool false) (by kernel_rfl) (fun w' hC => by go_simp) ?_
  simp only [Act.put, List.setIfInBounds_toArray, List.set_cons_zero, List.set_cons_succ]
  refine qb_mv (.bool false) _ (.inl rfl) (by kernel_rfl) (by rfl) ?_
  simp only [Act.put, List.setIfInBounds_toArray, List.set_cons_zero, List.set_cons_succ]
  refine qb_mv (.int .i64 0) _ (.inl rfl) (by kernel_rfl) (by rfl) ?_
  simp only [Act.put, List.setIfInBounds_toArray, List.set_cons_zero, List.set_cons_succ]
  refine qb_run (.bool true) (by kernel_rfl) (fun w' hC => by go_simp) ?_
  simp only [Act.put, List.setIfInBounds_toArray, List.set_cons_zero, List.set_cons_succ]
  refine qb_run (vI x) (by kernel_rfl) (fun w' hC => by obtain ⟨q0, q1⟩ := (t3.below hC t3.lt).cells2; go_simp) ?_
  simp only [Act.put, List.setIfInBounds_toArray, List.set_cons_zero, List.set_cons_succ]
  refine qb_run (vI x) (by kernel_rfl) (fun w' hC => by obtain ⟨q0, q1⟩ := (t4.below hC t4.lt).cells2; go_simp) ?_
  simp only [Act.put, List.setIfInBounds_toArray, List.set_cons_zero, List.set_cons_succ]
  refine qb_run (.bool true) (by kernel_rfl) (fun w' hC => by go_simp) ?_
  simp only [Act.put, List.setIfInBounds_toArray, List.set_cons_zero, List.set_cons_succ]
  refine qb_run (.bool false) (by kernel_rfl) (fun w' hC => by go_simp) ?_
  simp only [Act.put, List.setIfInBounds_toArray, List.set_cons_zero, List.set_cons_succ]
  refine qb_run (.bool false) (by kernel_rfl) (fun w' hC => by go_simp) ?_
  simp only [Act.put, List.setIfInBounds_toArray, List.set_cons_zero, List.set_cons_succ]
  refine qb_mv (.bool false) _ (.inl rfl) (by kernel_rfl) (by rfl) ?_
  simp only [Act.put, List.setIfInBounds_toArray, List.set_cons_zero, List.set_cons_succ]
  refine qb_mv (.int .i64 0) _ (.inl rfl) (by kernel_rfl) (by rfl) ?_
  simp only [Act.put, List.setIfInBounds_toArray, List.set_cons_zero, List.set_cons_succ]
  refine qb_run (.bool true) (by kernel_rfl) (fun w' hC => by go_simp) ?_
  simp only [Act.put, List.setIfInBounds_toArray, List.set_cons_zero, List.set_cons_succ]
  refine qb_mv (.bool true) _ (.inl rfl) (by kernel_rfl) (by rfl) ?_
  simp only [Act.put, List.setIfInBounds_toArray, List.set_cons_zero, List.set_cons_succ]
  refine qb_run (vI x) (by kernel_rfl) (fun w' hC => by obtain ⟨q0, q1⟩ := (t4.below hC t4.lt).cells2; go_simp) ?_
  simp only [Act.put, List.setIfInBounds_toArray, List.set_cons_zero, List.set_cons_succ]
  refine qb_run (vI z) (by kernel_rfl) (fun w' hC => by obtain ⟨q0, q1⟩ := (t5.below hC t5.lt).cells2; go_simp) ?_
  simp only [Act.put, List.setIfInBounds_toArray, List.set_cons_zero, List.set_cons_succ]
  refine qb_call (.int .i64 kbc) 20 #[vI x, vI z] (by kernel_rfl) (fun w' => by go_simp) (fun w' hC => (C3.out w').mono (fun e w'' h => ⟨h.1, hC.step h.2⟩)) ?_
  simp only [Act.put, List.setIfInBounds_toArray, List.set_cons_zero, List.set_cons_succ]
  refine qb_run (.bool false) (by kernel_rfl) (fun w' hC => by go_simp) ?_
  simp only [Act.put, List.setIfInBounds_toArray, List.set_cons_zero, List.set_cons_succ]
  refine qb_run (.bool false) (by kernel_rfl) (fun w' hC => by go_simp) ?_
  simp only [Act.put, List.setIfInBounds_toArray, List.set_cons_zero, List.set_cons_succ]
  refine qb_mv (.bool false) _ (.inl rfl) (by kernel_rfl) (by rfl) ?_
  simp only [Act.put, List.setIfInBounds_toArray, List.set_cons_zero, List.set_cons_succ]
  refine qb_skip (by kernel_rfl) ?_
  simp only [Act.put, List.setIfInBounds_toArray, List.set_cons_zero, List.set_cons_succ]
  refine qb_skip (by kernel_rfl) ?_
  simp only [Act.put, List.setIfInBounds_toArray, List.set_cons_zero, List.set_cons_succ]
  refine qb_skip (by kernel_rfl) ?_
  simp only [Act.put, List.setIfInBounds_toArray, List.set_cons_zero, List.set_cons_succ]
  refine qb_skip (by kernel_rfl) ?_
  simp only [Act.put, List.setIfInBounds_toArray, List.set_cons_zero, List.set_cons_succ]
  refine qb_run (.bool false) (by kernel_rfl) (fun w' hC => by go_simp) ?_
  simp only [Act.put, List.setIfInBounds_toArray, List.set_cons_zero, List.set_cons_succ]
  refine qb_run (.bool false) (by kernel_rfl) (fun w' hC => by go_simp) ?_
  simp only [Act.put, List.setIfInBounds_toArray, List.set_cons_zero, List.set_cons_succ]
  refine qb_mv (.bool false) _ (.inl rfl) (by kernel_rfl) (by rfl) ?_
  simp only [Act.put, List.setIfInBounds_toArray, List.set_cons_zero, List.set_cons_succ]
  refine qb_run (vI x) (by kernel_rfl) (fun w' hC => by obtain ⟨q0, q1⟩ := (t3.below hC t3.lt).cells2; go_simp) ?_
  simp only [Act.put, List.setIfInBounds_toArray, List.set_cons_zero, List.set_cons_succ]
  refine qb_run (vI z) (by kernel_rfl) (fun w' hC => by obtain ⟨q0, q1⟩ := (t5.below hC t5.lt).cells2; go_simp) ?_
  simp only [Act.put, List.setIfInBounds_toArray, List.set_cons_zero, List.set_cons_succ]
  refine qb_call (vI xz) 13 #[vI x, vI z] (by kernel_rfl) (fun w' => by go_simp) (fun w' hC => (A1.out w').mono (fun e w'' h => ⟨h.1, hC.step h.2⟩)) ?_
  simp only [Act.put, List.setIfInBounds_toArray, List.set_cons_zero, List.set_cons_succ]
  refine qb_run (vI x) (by kernel_rfl) (fun w' hC => by obtain ⟨q0, q1⟩ := (t4.below hC t4.lt).cells2; go_simp) ?_
  simp only [Act.put, List.setIfInBounds_toArray, List.set_cons_zero, List.set_cons_succ]
  refine qb_run (vI z) (by kernel_rfl) (fun w' hC => by obtain ⟨q0, q1⟩ := (t5.below hC t5.lt).cells2; go_simp) ?_
  simp only [Act.put, List.setIfInBounds_toArray, List.set_cons_zero, List.set_cons_succ]
  refine qb_call (vI xz) 13 #[vI x, vI z] (by kernel_rfl) (fun w' => by go_simp) (fun w' hC => (A1.out w').mono (fun e w'' h => ⟨h.1, hC.step h.2⟩)) ?_
  simp only [Act.put, List.setIfInBounds_toArray, List.set_cons_zero, List.set_cons_succ]
  refine qb_call (.int .i64 0) 20 #[vI xz, vI xz] (by kernel_rfl) (fun w' => by go_simp) (fun w' hC => (C5.out w').mono (fun e w'' h => ⟨h.1, hC.step h.2⟩)) ?_
  simp only [Act.put, List.setIfInBounds_toArray, List.set_cons_zero, List.set_cons_succ]
  refine qb_mv (.int .i64 0) _ (.inl rfl) (by kernel_rfl) (by rfl) ?_
  simp only [Act.put, List.setIfInBounds_toArray, List.set_cons_zero, List.set_cons_succ]
  refine qb_run (.bool false) (by kernel_rfl) (fun w' hC => by go_simp) ?_
  simp only [Act.put, List.setIfInBounds_toArray, List.set_cons_zero, List.set_cons_succ]
  refine qb_run (.bool false) (by kernel_rfl) (fun w' hC => by go_simp) ?_
  simp only [Act.put, List.setIfInBounds_toArray, List.set_cons_zero, List.set_cons_succ]
  refine qb_mv (.bool false) _ (.inl rfl) (by kernel_rfl) (by rfl) ?_
  simp only [Act.put, List.setIfInBounds_toArray, List.set_cons_zero, List.set_cons_succ]
  refine qb_run (vI x) (by kernel_rfl) (fun w' hC => by obtain ⟨q0, q1⟩ := (t3.below hC t3.lt).cells2; go_simp) ?_
  simp only [Act.put, List.setIfInBounds_toArray, List.set_cons_zero, List.set_cons_succ]
  refine qb_run (vI x) (by kernel_rfl) (fun w' hC => by obtain ⟨q0, q1⟩ := (t4.below hC t4.lt).cells2; go_simp) ?_
  simp only [Act.put, List.setIfInBounds_toArray, List.set_cons_zero, List.set_cons_succ]
  refine qb_call (vI e) 15 #[vI x, vI x] (by kernel_rfl) (fun w' => by go_simp) (fun w' hC => (S1.out w').mono (fun e w'' h => ⟨h.1, hC.step h.2⟩)) ?_
  simp only [Act.put, List.setIfInBounds_toArray, List.set_cons_zero, List.set_cons_succ]
  refine qb_call (.int .i64 0) 19 #[vI e] (by kernel_rfl) (fun w' => by go_simp) (fun w' hC => (G1.out w').mono (fun e w'' h => ⟨h.1, hC.step h.2⟩)) ?_
  simp only [Act.put, List.setIfInBounds_toArray, List.set_cons_zero, List.set_cons_succ]
  refine qb_mv (.int .i64 0) _ (.inl rfl) (by kernel_rfl) (by rfl) ?_
  simp only [Act.put, List.setIfInBounds_toArray, List.set_cons_zero, List.set_cons_succ]
  refine qb_run (.bool false) (by kernel_rfl) (fun w' hC => by go_simp) ?_
  simp only [Act.put, List.setIfInBounds_toArray, List.set_cons_zero, List.set_cons_succ]
  refine qb_run (.bool false) (by kernel_rfl) (fun w' hC => by go_simp) ?_
  simp only [Act.put, List.setIfInBounds_toArray, List.set_cons_zero, List.set_cons_succ]
  refine wpQuiet_nil (fun W6 hb => ?_)
  have t3 := t3.below hb t3.lt
  have t4 := t4.below hb t4.lt
  have t5 := t5.below hb t5.lt
  have t13 := t13.below hb t13.lt
  have bl := bl.trans (Below.mono hb bl.size)
  clear hb
  go_wp2_with fail
  refine region_qb (by kernel_rfl) (by kernel_rfl) ?_
  refine qb_run (vI z) (by kernel_rfl) (fun w' hC => by obtain ⟨q0, q1⟩ := (t5.below hC t5.lt).cells2; go_simp) ?_
  simp only [Act.put, List.setIfInBounds_toArray, List.set_cons_zero, List.set_cons_succ]
  refine qb_call (.int .i64 sc) 19 #[vI z] (by kernel_rfl) (fun w' => by go_simp) (fun w' hC => (G2.out w').mono (fun e w'' h => ⟨h.1, hC.step h.2⟩)) ?_
  simp only [Act.put, List.setIfInBounds_toArray, List.set_cons_zero, List.set_cons_succ]
  refine qb_run (.bool true) (by kernel_rfl) (fun w' hC => by go_simp) ?_
  simp only [Act.put, List.setIfInBounds_toArray, List.set_cons_zero, List.set_cons_succ]
  refine qb_mv (.bool true) _ (.inl rfl) (by kernel_rfl) (by rfl) ?_
  simp only [Act.put, List.setIfInBounds_toArray, List.set_cons_zero, List.set_cons_succ]
  refine qb_run (vI x) (by kernel_rfl) (fun w' hC => by obtain ⟨q0, q1⟩ := (t3.below hC t3.lt).cells2; go_simp) ?_
  simp only [Act.put, List.setIfInBounds_toArray, List.set_cons_zero, List.set_cons_succ]
  refine qb_run (vI z) (by kernel_rfl) (fun w' hC => by obtain ⟨q0, q1⟩ := (t5.below hC t5.lt).cells2; go_simp) ?_
  simp only [Act.put, List.setIfInBounds_toArray, List.set_cons_zero, List.set_cons_succ]
  refine qb_call (vI p) 14 #[vI x, vI z] (by kernel_rfl) (fun w' => by go_simp) (fun w' hC => (M1.out w').mono (fun e w'' h => ⟨h.1, hC.step h.2⟩)) ?_
  simp only [Act.put, List.setIfInBounds_toArray, List.set_cons_zero, List.set_cons_succ]
  refine qb_run (vI x) (by kernel_rfl) (fun w' hC => by obtain ⟨q0, q1⟩ := (t4.below hC t4.lt).cells2; go_simp) ?_
  simp only [Act.put, List.setIfInBounds_toArray, List.set_cons_zero, List.set_cons_succ]
  refine qb_run (vI z) (by kernel_rfl) (fun w' hC => by obtain ⟨q0, q1⟩ := (t5.below hC t5.lt).cells2; go_simp) ?_
  simp only [Act.put, List.setIfInBounds_toArray, List.set_cons_zero, List.set_cons_succ]
  refine qb_call (vI p) 14 #[vI x, vI z] (by kernel_rfl) (fun w' => by go_simp) (fun w' hC => (M1.out w').mono (fun e w'' h => ⟨h.1, hC.step h.2⟩)) ?_
  simp only [Act.put, List.setIfInBounds_toArray, List.set_cons_zero, List.set_cons_succ]
  refine qb_call (.int .i64 0) 20 #[vI p, vI p] (by kernel_rfl) (fun w' => by go_simp) (fun w' hC => (C6.out w').mono (fun e w'' h => ⟨h.1, hC.step h.2⟩)) ?_
  simp only [Act.put, List.setIfInBounds_toArray, List.set_cons_zero, List.set_cons_succ]
  refine qb_mv (.int .i64 0) _ (.inl rfl) (by kernel_rfl) (by rfl) ?_
  simp only [Act.put, List.setIfInBounds_toArray, List.set_cons_zero, List.set_cons_succ]
  refine qb_run (.bool false) (by kernel_rfl) (fun w' hC => by go_simp) ?_
  simp only [Act.put, List.setIfInBounds_toArray, List.set_cons_zero, List.set_cons_succ]
  refine qb_run (.bool false) (by kernel_rfl) (fun w' hC => by go_simp) ?_
  simp only [Act.put, List.setIfInBounds_toArray, List.set_cons_zero, List.set_cons_succ]
  refine wpQuiet_nil (fun W7 hb => ?_)
  have t3 := t3.below hb t3.lt
  have t4 := t4.below hb t4.lt
  have t5 := t5.below hb t5.lt
  have t13 := t13.below hb t13.lt
  have bl := bl.trans (Below.mono hb bl.size)
  clear hb
  go_wp2_with fail
  refine region_qb (by kernel_rfl) (by kernel_rfl) ?_
  refine qb_run (vI x) (by kernel_rfl) (fun w' hC => by obtain ⟨q0, q1⟩ := (t3.below hC t3.lt).cells2; go_simp) ?_
  simp only [Act.put, List.setIfInBounds_toArray, List.set_cons_zero, List.set_cons_succ]
  refine qb_run (vI x) (by kernel_rfl) (fun w' hC => by obtain ⟨q0, q1⟩ := (t3.below hC t3.lt).cells2; go_simp) ?_
  simp only [Act.put, List.setIfInBounds_toArray, List.set_cons_zero, List.set_cons_succ]
  refine qb_call (vI xx) 13 #[vI x, vI x] (by kernel_rfl) (fun w' => by go_simp) (fun w' hC => (A3.out w').mono (fun e w'' h => ⟨h.1, hC.step h.2⟩)) ?_
  simp only [Act.put, List.setIfInBounds_toArray, List.set_cons_zero, List.set_cons_succ]
  refine qb_call (.int .i64 (bi + mb)) 21 #[vI xx] (by kernel_rfl) (fun w' => by go_simp) (fun w' hC => (B1.out w').mono (fun e w'' h => ⟨h.1, hC.step h.2⟩)) ?_
  simp only [Act.put, List.setIfInBounds_toArray, List.set_cons_zero, List.set_cons_succ]
  refine qb_run (vI x) (by kernel_rfl) (fun w' hC => by obtain ⟨q0, q1⟩ := (t3.below hC t3.lt).cells2; go_simp) ?_
  simp only [Act.put, List.setIfInBounds_toArray, List.set_cons_zero, List.set_cons_succ]
  refine qb_call (.int .i64 bi) 21 #[vI x] (by kernel_rfl) (fun w' => by go_simp) (fun w' hC => (B2.out w').mono (fun e w'' h => ⟨h.1, hC.step h.2⟩)) ?_
  simp only [Act.put, List.setIfInBounds_toArray, List.set_cons_zero, List.set_cons_succ]
  refine qb_run (vI x) (by kernel_rfl) (fun w' hC => by obtain ⟨q0, q1⟩ := (t3.below hC t3.lt).cells2; go_simp) ?_
  simp only [Act.put, List.setIfInBounds_toArray, List.set_cons_zero, List.set_cons_succ]
  refine qb_call (.int .i64 bi) 21 #[vI x] (by kernel_rfl) (fun w' => by go_simp) (fun w' hC => (B2.out w').mono (fun e w'' h => ⟨h.1, hC.step h.2⟩)) ?_
  simp only [Act.put, List.setIfInBounds_toArray, List.set_cons_zero, List.set_cons_succ]
  refine qb_run (.int .i64 mb) (by kernel_rfl) (fun w' hC => by have h1 := HMB.out; go_simp) ?_
  simp only [Act.put, List.setIfInBounds_toArray, List.set_cons_zero, List.set_cons_succ]
  refine qb_run (.int .i64 (bi + mb)) (by kernel_rfl) (fun w' hC => by have h1 := HWB.out; go_simp) ?_
  simp only [Act.put, List.setIfInBounds_toArray, List.set_cons_zero, List.set_cons_succ]
  refine qb_run (.bool true) (by kernel_rfl) (fun w' hC => by go_simp) ?_
  simp only [Act.put, List.setIfInBounds_toArray, List.set_cons_zero, List.set_cons_succ]
  refine qb_mv (.bool true) _ (.inr rfl) (by kernel_rfl) (by rfl) ?_
  simp only [Act.put, List.setIfInBounds_toArray, List.set_cons_zero, List.set_cons_succ]
  refine wpQuiet_nil (fun W8 hb => ?_)
  have t3 := t3.below hb t3.lt
  have t4 := t4.below hb t4.lt
  have t5 := t5.below hb t5.lt
  have t13 := t13.below hb t13.lt
  have bl := bl.trans (Below.mono hb bl.size)
  clear hb
  go_wp2_with fail
  go_ret
  exact ⟨rfl, bl⟩

set_option maxHeartbeats 4000000 in
set_option maxRecDepth 100000 in
theorem Order_eq2p (x z xz yz e p q xx : Int) (kbc kac sc bi mb : Int) (w : World)
    (HAW : ∀ W, Below w.heap.size w W → Calls Tryd.prog 10 #[] W (RetB true W))
    (HRI : ∀ (A : Option Addr) n W, RdI W A [(sg x, mg x), (sg x, mg x), (sg z, mg z)] → Calls Tryd.prog 11 #[.slice A 3 n] W (RetB true W))
    (C1 : ∀ W, Calls Tryd.prog 20 #[vI x, vI x] W (RetN (0) W))
    (C3 : ∀ W, Calls Tryd.prog 20 #[vI x, vI z] W (RetN kbc W))
    (h3 : kbc ≤ 0)
    (A1 : ∀ W, Calls Tryd.prog 13 #[vI x, vI z] W (RetI xz W))
    (C5 : ∀ W, Calls Tryd.prog 20 #[vI xz, vI xz] W (RetN (0) W))
    (S1 : ∀ W, Calls Tryd.prog 15 #[vI x, vI x] W (RetI e W))
    (G1 : ∀ W, Calls Tryd.prog 19 #[vI e] W (RetN (0) W))
    (G2 : ∀ W, Calls Tryd.prog 19 #[vI z] W (RetN sc W))
    (h5 : 0 < sc)
    (M1 : ∀ W, Calls Tryd.prog 14 #[vI x, vI z] W (RetI p W))
    (C6 : ∀ W, Calls Tryd.prog 20 #[vI p, vI p] W (RetN (0) W))
    (A3 : ∀ W, Calls Tryd.prog 13 #[vI x, vI x] W (RetI xx W))
    (B1 : ∀ W, Calls Tryd.prog 21 #[vI xx] W (RetN (bi + mb) W))
    (B2 : ∀ W, Calls Tryd.prog 21 #[vI x] W (RetN bi W))
    (HMB : (if bi < 1 then bi else 1) = mb)
    (HWB : IntKind.i64.wrap (bi + mb) = bi + mb) :
    Calls Tryd.prog 5 #[vI x, vI x, vI z] w (RetB true w) := by
  replace HAW := Lib.hid HAW
  replace HRI := Lib.hid HRI
  replace C1 := Lib.hid C1
  replace C3 := Lib.hid C3
  replace A1 := Lib.hid A1
  replace C5 := Lib.hid C5
  replace S1 := Lib.hid S1
  replace G1 := Lib.hid G1
  replace G2 := Lib.hid G2
  replace M1 := Lib.hid M1
  replace C6 := Lib.hid C6
  replace A3 := Lib.hid A3
  replace B1 := Lib.hid B1
  replace B2 := Lib.hid B2
  replace HMB := Lib.hid HMB
  replace HWB := Lib.hid HWB
  go_enter Tryd.func5, Tryd.ntmps5
  go_wp2_with fail
  have t3 := ((Ob.new (w) 23 #[.bool (sg x), .string (mg x)]).alloc (.cells #[.bool (sg x), .string (mg x)] 23)).alloc (.cells #[.bool (sg z), .string (mg z)] 23)
  have t4 := (Ob.new ((w.alloc (.cells #[.bool (sg x), .string (mg x)] 23))) 23 #[.bool (sg x), .string (mg x)]).alloc (.cells #[.bool (sg z), .string (mg z)] 23)
  have t5 := Ob.new (((w.alloc (.cells #[.bool (sg x), .string (mg x)] 23)).alloc (.cells #[.bool (sg x), .string (mg x)] 23))) 23 #[.bool (sg z), .string (mg z)]
  have bl := ((((Below.refl w.heap.size w).alloc (Nat.le_refl _) (.cells #[.bool (sg x), .string (mg x)] 23)).alloc (by simp only [World.size_alloc]; omega) (.cells #[.bool (sg x), .string (mg x)] 23)).alloc (by simp only [World.size_alloc]; omega) (.cells #[.bool (sg z), .string (mg z)] 23))
  try simp only [World.size_alloc] at t3 t4 t5
  generalize World.alloc (World.alloc (World.alloc w _) _) _ = W1 at t3 t4 t5 bl ⊢
  refine (HAW.out W1 bl).mono ?_
  rintro e W2 ⟨rfl, hb⟩
  have t3 := t3.below hb t3.lt
  have t4 := t4.below hb t4.lt
  have t5 := t5.below hb t5.lt
  have bl := bl.trans (Below.mono hb bl.size)
  clear hb
  obtain ⟨c0_0, c0_1⟩ := t3.cells2
  obtain ⟨c1_0, c1_1⟩ := t4.cells2
  obtain ⟨c2_0, c2_1⟩ := t5.cells2
  go_wp2_with fail
  clear c0_0 c0_1 c1_0 c1_1 c2_0 c2_1
  have t3 := (t3.alloc (.cells #[.bool (sg x), .string (mg x), .bool (sg x), .string (mg x), .bool (sg z), .string (mg z)] 23))
  have t4 := (t4.alloc (.cells #[.bool (sg x), .string (mg x), .bool (sg x), .string (mg x), .bool (sg z), .string (mg z)] 23))
  have t5 := (t5.alloc (.cells #[.bool (sg x), .string (mg x), .bool (sg x), .string (mg x), .bool (sg z), .string (mg z)] 23))
  have t13 := Ob.new (W2) 23 #[.bool (sg x), .string (mg x), .bool (sg x), .string (mg x), .bool (sg z), .string (mg z)]
  have bl := (bl.alloc (by have := bl.size; (try simp only [World.size_alloc] at *); omega) (.cells #[.bool (sg x), .string (mg x), .bool (sg x), .string (mg x), .bool (sg z), .string (mg z)] 23))
  try simp only [World.size_alloc] at t3 t4 t5 t13
  generalize hn3 : W2.heap.size = bk3 at t13 ⊢
  clear hn3
  generalize World.alloc W2 _ = W3 at t3 t4 t5 t13 bl ⊢
  refine (HRI.out _ 3 W3 (rdi_3 t13)).mono ?_
  rintro e W4 ⟨rfl, hb⟩
  have t3 := t3.below hb t3.lt
  have t4 := t4.below hb t4.lt
  have t5 := t5.below hb t5.lt
  have t13 := t13.below hb t13.lt
  have bl := bl.trans (Below.mono hb bl.size)
  clear hb
  obtain ⟨c0_0, c0_1⟩ := t3.cells2
  obtain ⟨c1_0, c1_1⟩ := t4.cells2
  go_wp2_with fail
  clear c0_0 c0_1 c1_0 c1_1
  refine (C1.out W4).mono ?_
  rintro e W5 ⟨rfl, hb⟩
  have t3 := t3.below hb t3.lt
  have t4 := t4.below hb t4.lt
  have t5 := t5.below hb t5.lt
  have t13 := t13.below hb t13.lt
  have bl := bl.trans (Below.mono hb bl.size)
  clear hb
  go_wp2_with fail
  refine region_qb (by kernel_rfl) (by kernel_rfl) ?_
  refine qb_mv (.int .i64 0) _ (.inl rfl) (by kernel_rfl) (by rfl) ?_
  simp only [Act.put, List.setIfInBounds_toArray, List.set_cons_zero, List.set_cons_succ]
  refine qb_run (vI x) (by kernel_rfl) (fun w' hC => by obtain ⟨q0, q1⟩ := (t4.below hC t4.lt).cells2; go_simp) ?_
  simp only [Act.put, List.setIfInBounds_toArray, List.set_cons_zero, List.set_cons_succ]
  refine qb_run (vI x) (by kernel_rfl) (fun w' hC => by obtain ⟨q0, q1⟩ := (t3.below hC t3.lt).cells2; go_simp) ?_
  simp only [Act.put, List.setIfInBounds_toArray, List.set_cons_zero, List.set_cons_succ]
  refine qb_call (.int .i64 0) 20 #[vI x, vI x] (by kernel_rfl) (fun w' => by go_simp) (fun w' hC => (C1.out w').mono (fun e w'' h => ⟨h.1, hC.step h.2⟩)) ?_
  simp only [Act.put, List.setIfInBounds_toArray, List.set_cons_zero, List.set_cons_succ]
  refine qb_run (.int .i64 0) (by kernel_rfl) (fun w' hC => by go_simp <;> rfl) ?_
  simp only [Act.put, List.setIfInBounds_toArray, List.set_cons_zero, List.set_cons_succ]
  refine qb_run (.bool false) (by kernel_rfl) (fun w' hC => by go_simp) ?_
  simp only [Act.put, List.setIfInBounds_toArray, List.set_cons_zero, List.set_cons_succ]
  refine qb_mv (.bool false) _ (.inl rfl) (by kernel_rfl) (by rfl) ?_
  simp only [Act.put, List.setIfInBounds_toArray, List.set_cons_zero, List.set_cons_succ]
  refine qb_mv (.int .i64 0) _ (.inl rfl) (by kernel_rfl) (by rfl) ?_
  simp only [Act.put, List.setIfInBounds_toArray, List.set_cons_zero, List.set_cons_succ]
  refine qb_run (.bool true) (by kernel_rfl) (fun w' hC => by go_simp) ?_
  simp only [Act.put, List.setIfInBounds_toArray, List.set_cons_zero, List.set_cons_succ]
  refine qb_run (vI x) (by kernel_rfl) (fun w' hC => by obtain ⟨q0, q1⟩ := (t3.below hC t3.lt).cells2; go_simp) ?_
  simp only [Act.put, List.setIfInBounds_toArray, List.set_cons_zero, List.set_cons_succ]
  refine qb_run (vI x) (by kernel_rfl) (fun w' hC => by obtain ⟨q0, q1⟩ := (t4.below hC t4.lt).cells2; go_simp) ?_
  simp only [Act.put, List.setIfInBounds_toArray, List.set_cons_zero, List.set_cons_succ]
  refine qb_run (.bool true) (by kernel_rfl) (fun w' hC => by go_simp) ?_
  simp only [Act.put, List.setIfInBounds_toArray, List.set_cons_zero, List.set_cons_succ]
  refine qb_run (.bool false) (by kernel_rfl) (fun w' hC => by go_simp) ?_
  simp only [Act.put, List.setIfInBounds_toArray, List.set_cons_zero, List.set_cons_succ]
  refine qb_run (.bool false) (by kernel_rfl) (fun w' hC => by go_simp) ?_
  simp only [Act.put, List.setIfInBounds_toArray, List.set_cons_zero, List.set_cons_succ]
  refine qb_mv (.bool false) _ (.inl rfl) (by kernel_rfl) (by rfl) ?_
  simp only [Act.put, List.setIfInBounds_toArray, List.set_cons_zero, List.set_cons_succ]
  refine qb_mv (.int .i64 0) _ (.inl rfl) (by kernel_rfl) (by rfl) ?_
  simp only [Act.put, List.setIfInBounds_toArray, List.set_cons_zero, List.set_cons_succ]
  refine qb_run (.bool true) (by kernel_rfl) (fun w' hC => by go_simp) ?_
  simp only [Act.put, List.setIfInBounds_toArray, List.set_cons_zero, List.set_cons_succ]
  refine qb_mv (.bool true) _ (.inl rfl) (by kernel_rfl) (by rfl) ?_
  simp only [Act.put, List.setIfInBounds_toArray, List.set_cons_zero, List.set_cons_succ]
  refine qb_run (vI x) (by kernel_rfl) (fun w' hC => by obtain ⟨q0, q1⟩ := (t4.below hC t4.lt).cells2; go_simp) ?_
  simp only [Act.put, List.setIfInBounds_toArray, List.set_cons_zero, List.set_cons_succ]
  refine qb_run (vI z) (by kernel_rfl) (fun w' hC => by obtain ⟨q0, q1⟩ := (t5.below hC t5.lt).cells2; go_simp) ?_
  simp only [Act.put, List.setIfInBounds_toArray, List.set_cons_zero, List.set_cons_succ]
  refine qb_call (.int .i64 kbc) 20 #[vI x, vI z] (by kernel_rfl) (fun w' => by go_simp) (fun w' hC => (C3.out w').mono (fun e w'' h => ⟨h.1, hC.step h.2⟩)) ?_
  simp only [Act.put, List.setIfInBounds_toArray, List.set_cons_zero, List.set_cons_succ]
  refine qb_run (.bool true) (by kernel_rfl) (fun w' hC => by go_simp) ?_
  simp only [Act.put, List.setIfInBounds_toArray, List.set_cons_zero, List.set_cons_succ]
  refine qb_run (.bool true) (by kernel_rfl) (fun w' hC => by go_simp) ?_
  simp only [Act.put, List.setIfInBounds_toArray, List.set_cons_zero, List.set_cons_succ]
  refine qb_mv (.bool true) _ (.inl rfl) (by kernel_rfl) (by rfl) ?_
  simp only [Act.put, List.setIfInBounds_toArray, List.set_cons_zero, List.set_cons_succ]
  refine qb_run (vI x) (by kernel_rfl) (fun w' hC => by obtain ⟨q0, q1⟩ := (t3.below hC t3.lt).cells2; go_simp) ?_
  simp only [Act.put, List.setIfInBounds_toArray, List.set_cons_zero, List.set_cons_succ]
  refine qb_run (vI z) (by kernel_rfl) (fun w' hC => by obtain ⟨q0, q1⟩ := (t5.below hC t5.lt).cells2; go_simp) ?_
  simp only [Act.put, List.setIfInBounds_toArray, List.set_cons_zero, List.set_cons_succ]
  refine qb_call (.int .i64 kbc) 20 #[vI x, vI z] (by kernel_rfl) (fun w' => by go_simp) (fun w' hC => (C3.out w').mono (fun e w'' h => ⟨h.1, hC.step h.2⟩)) ?_
  simp only [Act.put, List.setIfInBounds_toArray, List.set_cons_zero, List.set_cons_succ]
  refine qb_run (.bool false) (by kernel_rfl) (fun w' hC => by go_simp) ?_
  simp only [Act.put, List.setIfInBounds_toArray, List.set_cons_zero, List.set_cons_succ]
  refine qb_run (.bool false) (by kernel_rfl) (fun w' hC => by go_simp) ?_
  simp only [Act.put, List.setIfInBounds_toArray, List.set_cons_zero, List.set_cons_succ]
  refine qb_run (.bool false) (by kernel_rfl) (fun w' hC => by go_simp) ?_
  simp only [Act.put, List.setIfInBounds_toArray, List.set_cons_zero, List.set_cons_succ]
  refine qb_mv (.bool false) _ (.inl rfl) (by kernel_rfl) (by rfl) ?_
  simp only [Act.put, List.setIfInBounds_toArray, List.set_cons_zero, List.set_cons_succ]
  refine qb_run (vI x) (by kernel_rfl) (fun w' hC => by obtain ⟨q0, q1⟩ := (t3.below hC t3.lt).cells2; go_simp) ?_
  simp only [Act.put, List.setIfInBounds_toArray, List.set_cons_zero, List.set_cons_succ]
  refine qb_run (vI z) (by kernel_rfl) (fun w' hC => by obtain ⟨q0, q1⟩ := (t5.below hC t5.lt).cells2; go_simp) ?_
  simp only [Act.put, List.setIfInBounds_toArray, List.set_cons_zero, List.set_cons_succ]
  refine qb_call (vI xz) 13 #[vI x, vI z] (by kernel_rfl) (fun w' => by go_simp) (fun w' hC => (A1.out w').mono (fun e w'' h => ⟨h.1, hC.step h.2⟩)) ?_
  simp only [Act.put, List.setIfInBounds_toArray, List.set_cons_zero, List.set_cons_succ]
  refine qb_run (vI x) (by kernel_rfl) (fun w' hC => by obtain ⟨q0, q1⟩ := (t4.below hC t4.lt).cells2; go_simp) ?_
  simp only [Act.put, List.setIfInBounds_toArray, List.set_cons_zero, List.set_cons_succ]
  refine qb_run (vI z) (by kernel_rfl) (fun w' hC => by obtain ⟨q0, q1⟩ := (t5.below hC t5.lt).cells2; go_simp) ?_
  simp only [Act.put, List.setIfInBounds_toArray, List.set_cons_zero, List.set_cons_succ]
  refine qb_call (vI xz) 13 #[vI x, vI z] (by kernel_rfl) (fun w' => by go_simp) (fun w' hC => (A1.out w').mono (fun e w'' h => ⟨h.1, hC.step h.2⟩)) ?_
  simp only [Act.put, List.setIfInBounds_toArray, List.set_cons_zero, List.set_cons_succ]
  refine qb_call (.int .i64 0) 20 #[vI xz, vI xz] (by kernel_rfl) (fun w' => by go_simp) (fun w' hC => (C5.out w').mono (fun e w'' h => ⟨h.1, hC.step h.2⟩)) ?_
  simp only [Act.put, List.setIfInBounds_toArray, List.set_cons_zero, List.set_cons_succ]
  refine qb_mv (.int .i64 0) _ (.inl rfl) (by kernel_rfl) (by rfl) ?_
  simp only [Act.put, List.setIfInBounds_toArray, List.set_cons_zero, List.set_cons_succ]
  refine qb_run (.bool false) (by kernel_rfl) (fun w' hC => by go_simp) ?_
  simp only [Act.put, List.setIfInBounds_toArray, List.set_cons_zero, List.set_cons_succ]
  refine qb_run (.bool false) (by kernel_rfl) (fun w' hC => by go_simp) ?_
  simp only [Act.put, List.setIfInBounds_toArray, List.set_cons_zero, List.set_cons_succ]
  refine qb_mv (.bool false) _ (.inl rfl) (by kernel_rfl) (by rfl) ?_
  simp only [Act.put, List.setIfInBounds_toArray, List.set_cons_zero, List.set_cons_succ]
  refine qb_run (vI x) (by kernel_rfl) (fun w' hC => by obtain ⟨q0, q1⟩ := (t3.below hC t3.lt).cells2; go_simp) ?_
  simp only [Act.put, List.setIfInBounds_toArray, List.set_cons_zero, List.set_cons_succ]
  refine qb_run (vI x) (by kernel_rfl) (fun w' hC => by obtain ⟨q0, q1⟩ := (t4.below hC t4.lt).cells2; go_simp) ?_
  simp only [Act.put, List.setIfInBounds_toArray, List.set_cons_zero, List.set_cons_succ]
  refine qb_call (vI e) 15 #[vI x, vI x] (by kernel_rfl) (fun w' => by go_simp) (fun w' hC => (S1.out w').mono (fun e w'' h => ⟨h.1, hC.step h.2⟩)) ?_
  simp only [Act.put, List.setIfInBounds_toArray, List.set_cons_zero, List.set_cons_succ]
  refine qb_call (.int .i64 0) 19 #[vI e] (by kernel_rfl) (fun w' => by go_simp) (fun w' hC => (G1.out w').mono (fun e w'' h => ⟨h.1, hC.step h.2⟩)) ?_
  simp only [Act.put, List.setIfInBounds_toArray, List.set_cons_zero, List.set_cons_succ]
  refine qb_mv (.int .i64 0) _ (.inl rfl) (by kernel_rfl) (by rfl) ?_
  simp only [Act.put, List.setIfInBounds_toArray, List.set_cons_zero, List.set_cons_succ]
  refine qb_run (.bool false) (by kernel_rfl) (fun w' hC => by go_simp) ?_
  simp only [Act.put, List.setIfInBounds_toArray, List.set_cons_zero, List.set_cons_succ]
  refine qb_run (.bool false) (by kernel_rfl) (fun w' hC => by go_simp) ?_
  simp only [Act.put, List.setIfInBounds_toArray, List.set_cons_zero, List.set_cons_succ]
  refine wpQuiet_nil (fun W6 hb => ?_)
  have t3 := t3.below hb t3.lt
  have t4 := t4.below hb t4.lt
  have t5 := t5.below hb t5.lt
  have t13 := t13.below hb t13.lt
  have bl := bl.trans (Below.mono hb bl.size)
  clear hb
  go_wp2_with fail
  refine region_qb (by kernel_rfl) (by kernel_rfl) ?_
  refine qb_run (vI z) (by kernel_rfl) (fun w' hC => by obtain ⟨q0, q1⟩ := (t5.below hC t5.lt).cells2; go_simp) ?_
  simp only [Act.put, List.setIfInBounds_toArray, List.set_cons_zero, List.set_cons_succ]
  refine qb_call (.int .i64 sc) 19 #[vI z] (by kernel_rfl) (fun w' => by go_simp) (fun w' hC => (G2.out w').mono (fun e w'' h => ⟨h.1, hC.step h.2⟩)) ?_
  simp only [Act.put, List.setIfInBounds_toArray, List.set_cons_zero, List.set_cons_succ]
  refine qb_run (.bool true) (by kernel_rfl) (fun w' hC => by go_simp) ?_
  simp only [Act.put, List.setIfInBounds_toArray, List.set_cons_zero, List.set_cons_succ]
  refine qb_mv (.bool true) _ (.inl rfl) (by kernel_rfl) (by rfl) ?_
  simp only [Act.put, List.setIfInBounds_toArray, List.set_cons_zero, List.set_cons_succ]
  refine qb_run (vI x) (by kernel_rfl) (fun w' hC => by obtain ⟨q0, q1⟩ := (t3.below hC t3.lt).cells2; go_simp) ?_
  simp only [Act.put, List.setIfInBounds_toArray, List.set_cons_zero, List.set_cons_succ]
  refine qb_run (vI z) (by kernel_rfl) (fun w' hC => by obtain ⟨q0, q1⟩ := (t5.below hC t5.lt).cells2; go_simp) ?_
  simp only [Act.put, List.setIfInBounds_toArray, List.set_cons_zero, List.set_cons_succ]
  refine qb_call (vI p) 14 #[vI x, vI z] (by kernel_rfl) (fun w' => by go_simp) (fun w' hC => (M1.out w').mono (fun e w'' h => ⟨h.1, hC.step h.2⟩)) ?_
  simp only [Act.put, List.setIfInBounds_toArray, List.set_cons_zero, List.set_cons_succ]
  refine qb_run (vI x) (by kernel_rfl) (fun w' hC => by obtain ⟨q0, q1⟩ := (t4.below hC t4.lt).cells2; go_simp) ?_
  simp only [Act.put, List.setIfInBounds_toArray, List.set_cons_zero, List.set_cons_succ]
  refine qb_run (vI z) (by kernel_rfl) (fun w' hC => by obtain ⟨q0, q1⟩ := (t5.below hC t5.lt).cells2; go_simp) ?_
  simp only [Act.put, List.setIfInBounds_toArray, List.set_cons_zero, List.set_cons_succ]
  refine qb_call (vI p) 14 #[vI x, vI z] (by kernel_rfl) (fun w' => by go_simp) (fun w' hC => (M1.out w').mono (fun e w'' h => ⟨h.1, hC.step h.2⟩)) ?_
  simp only [Act.put, List.setIfInBounds_toArray, List.set_cons_zero, List.set_cons_succ]
  refine qb_call (.int .i64 0) 20 #[vI p, vI p] (by kernel_rfl) (fun w' => by go_simp) (fun w' hC => (C6.out w').mono (fun e w'' h => ⟨h.1, hC.step h.2⟩)) ?_
  simp only [Act.put, List.setIfInBounds_toArray, List.set_cons_zero, List.set_cons_succ]
  refine qb_mv (.int .i64 0) _ (.inl rfl) (by kernel_rfl) (by rfl) ?_
  simp only [Act.put, List.setIfInBounds_toArray, List.set_cons_zero, List.set_cons_succ]
  refine qb_run (.bool false) (by kernel_rfl) (fun w' hC => by go_simp) ?_
  simp only [Act.put, List.setIfInBounds_toArray, List.set_cons_zero, List.set_cons_succ]
  refine qb_run (.bool false) (by kernel_rfl) (fun w' hC => by go_simp) ?_
  simp only [Act.put, List.setIfInBounds_toArray, List.set_cons_zero, List.set_cons_succ]
  refine wpQuiet_nil (fun W7 hb => ?_)
  have t3 := t3.below hb t3.lt
  have t4 := t4.below hb t4.lt
  have t5 := t5.below hb t5.lt
  have t13 := t13.below hb t13.lt
  have bl := bl.trans (Below.mono hb bl.size)
  clear hb
  go_wp2_with fail
  refine region_qb (by kernel_rfl) (by kernel_rfl) ?_
  refine qb_run (vI x) (by kernel_rfl) (fun w' hC => by obtain ⟨q0, q1⟩ := (t3.below hC t3.lt).cells2; go_simp) ?_
  simp only [Act.put, List.setIfInBounds_toArray, List.set_cons_zero, List.set_cons_succ]
  refine qb_run (vI x) (by kernel_rfl) (fun w' hC => by obtain ⟨q0, q1⟩ := (t3.below hC t3.lt).cells2; go_simp) ?_
  simp only [Act.put, List.setIfInBounds_toArray, List.set_cons_zero, List.set_cons_succ]
  refine qb_call (vI xx) 13 #[vI x, vI x] (by kernel_rfl) (fun w' => by go_simp) (fun w' hC => (A3.out w').mono (fun e w'' h => ⟨h.1, hC.step h.2⟩)) ?_
  simp only [Act.put, List.setIfInBounds_toArray, List.set_cons_zero, List.set_cons_succ]
  refine qb_call (.int .i64 (bi + mb)) 21 #[vI xx] (by kernel_rfl) (fun w' => by go_simp) (fun w' hC => (B1.out w').mono (fun e w'' h => ⟨h.1, hC.step h.2⟩)) ?_
  simp only [Act.put, List.setIfInBounds_toArray, List.set_cons_zero, List.set_cons_succ]
  refine qb_run (vI x) (by kernel_rfl) (fun w' hC => by obtain ⟨q0, q1⟩ := (t3.below hC t3.lt).cells2; go_simp) ?_
  simp only [Act.put, List.setIfInBounds_toArray, List.set_cons_zero, List.set_cons_succ]
  refine qb_call (.int .i64 bi) 21 #[vI x] (by kernel_rfl) (fun w' => by go_simp) (fun w' hC => (B2.out w').mono (fun e w'' h => ⟨h.1, hC.step h.2⟩)) ?_
  simp only [Act.put, List.setIfInBounds_toArray, List.set_cons_zero, List.set_cons_succ]
  refine qb_run (vI x) (by kernel_rfl) (fun w' hC => by obtain ⟨q0, q1⟩ := (t3.below hC t3.lt).cells2; go_simp) ?_
  simp only [Act.put, List.setIfInBounds_toArray, List.set_cons_zero, List.set_cons_succ]
  refine qb_call (.int .i64 bi) 21 #[vI x] (by kernel_rfl) (fun w' => by go_simp) (fun w' hC => (B2.out w').mono (fun e w'' h => ⟨h.1, hC.step h.2⟩)) ?_
  simp only [Act.put, List.setIfInBounds_toArray, List.set_cons_zero, List.set_cons_succ]
  refine qb_run (.int .i64 mb) (by kernel_rfl) (fun w' hC => by have h1 := HMB.out; go_simp) ?_
  simp only [Act.put, List.setIfInBounds_toArray, List.set_cons_zero, List.set_cons_succ]
  refine qb_run (.int .i64 (bi + mb)) (by kernel_rfl) (fun w' hC => by have h1 := HWB.out; go_simp) ?_
  simp only [Act.put, List.setIfInBounds_toArray, List.set_cons_zero, List.set_cons_succ]
  refine qb_run (.bool true) (by kernel_rfl) (fun w' hC => by go_simp) ?_
  simp only [Act.put, List.setIfInBounds_toArray, List.set_cons_zero, List.set_cons_succ]
  refine qb_mv (.bool true) _ (.inr rfl) (by kernel_rfl) (by rfl) ?_
  simp only [Act.put, List.setIfInBounds_toArray, List.set_cons_zero, List.set_cons_succ]
  refine wpQuiet_nil (fun W8 hb => ?_)
  have t3 := t3.below hb t3.lt
  have t4 := t4.below hb t4.lt
  have t5 := t5.below hb t5.lt
  have t13 := t13.below hb t13.lt
  have bl := bl.trans (Below.mono hb bl.size)
  clear hb
  go_wp2_with fail
  go_ret
  exact ⟨rfl, bl⟩

set_option maxHeartbeats 4000000 in
set_option maxRecDepth 100000 in
theorem Order_gtp (x y z xz yz e p q xx : Int) (kbc kac sc bi mb : Int) (w : World)
    (HAW : ∀ W, Below w.heap.size w W → Calls Tryd.prog 10 #[] W (RetB true W))
    (HRI : ∀ (A : Option Addr) n W, RdI W A [(sg x, mg x), (sg y, mg y), (sg z, mg z)] → Calls Tryd.prog 11 #[.slice A 3 n] W (RetB true W))
    (C1 : ∀ W, Calls Tryd.prog 20 #[vI x, vI y] W (RetN (1) W))
    (C2 : ∀ W, Calls Tryd.prog 20 #[vI y, vI x] W (RetN (-1) W))
    (A1 : ∀ W, Calls Tryd.prog 13 #[vI x, vI z] W (RetI xz W))
    (A2 : ∀ W, Calls Tryd.prog 13 #[vI y, vI z] W (RetI yz W))
    (C5 : ∀ W, Calls Tryd.prog 20 #[vI xz, vI yz] W (RetN (1) W))
    (S1 : ∀ W, Calls Tryd.prog 15 #[vI x, vI y] W (RetI e W))
    (G1 : ∀ W, Calls Tryd.prog 19 #[vI e] W (RetN (1) W))
    (G2 : ∀ W, Calls Tryd.prog 19 #[vI z] W (RetN sc W))
    (h5 : 0 < sc)
    (M1 : ∀ W, Calls Tryd.prog 14 #[vI x, vI z] W (RetI p W))
    (M2 : ∀ W, Calls Tryd.prog 14 #[vI y, vI z] W (RetI q W))
    (C6 : ∀ W, Calls Tryd.prog 20 #[vI p, vI q] W (RetN (1) W))
    (A3 : ∀ W, Calls Tryd.prog 13 #[vI x, vI x] W (RetI xx W))
    (B1 : ∀ W, Calls Tryd.prog 21 #[vI xx] W (RetN (bi + mb) W))
    (B2 : ∀ W, Calls Tryd.prog 21 #[vI x] W (RetN bi W))
    (HMB : (if bi < 1 then bi else 1) = mb)
    (HWB : IntKind.i64.wrap (bi + mb) = bi + mb)
    (hne : x ≠ y) :
    Calls Tryd.prog 5 #[vI x, vI y, vI z] w (RetB true w) := by
  have HNE := Lib.hid (vI_ne hne)
  clear hne
  replace HAW := Lib.hid HAW
  replace HRI := Lib.hid HRI
  replace C1 := Lib.hid C1
  replace C2 := Lib.hid C2
  replace A1 := Lib.hid A1
  replace A2 := Lib.hid A2
  replace C5 := Lib.hid C5
  replace S1 := Lib.hid S1
  replace G1 := Lib.hid G1
  replace G2 := Lib.hid G2
  replace M1 := Lib.hid M1
  replace M2 := Lib.hid M2
  replace C6 := Lib.hid C6
  replace A3 := Lib.hid A3
  replace B1 := Lib.hid B1
  replace B2 := Lib.hid B2
  replace HMB := Lib.hid HMB
  replace HWB := Lib.hid HWB
  go_enter Tryd.func5, Tryd.ntmps5
  go_wp2_with fail
  have t3 := ((Ob.new (w) 23 #[.bool (sg x), .string (mg x)]).alloc (.cells #[.bool (sg y), .string (mg y)] 23)).alloc (.cells #[.bool (sg z), .string (mg z)] 23)
  have t4 := (Ob.new ((w.alloc (.cells #[.bool (sg x), .string (mg x)] 23))) 23 #[.bool (sg y), .string (mg y)]).alloc (.cells #[.bool (sg z), .string (mg z)] 23)
  have t5 := Ob.new (((w.alloc (.cells #[.bool (sg x), .string (mg x)] 23)).alloc (.cells #[.bool (sg y), .string (mg y)] 23))) 23 #[.bool (sg z), .string (mg z)]
  have bl := ((((Below.refl w.heap.size w).alloc (Nat.le_refl _) (.cells #[.bool (sg x), .string (mg x)] 23)).alloc (by simp only [World.size_alloc]; omega) (.cells #[.bool (sg y), .string (mg y)] 23)).alloc (by simp only [World.size_alloc]; omega) (.cells #[.bool (sg z), .string (mg z)] 23))
  try simp only [World.size_alloc] at t3 t4 t5
  generalize World.alloc (World.alloc (World.alloc w _) _) _ = W1 at t3 t4 t5 bl ⊢
  refine (HAW.out W1 bl).mono ?_
  rintro e W2 ⟨rfl, hb⟩
  have t3 := t3.below hb t3.lt
  have t4 := t4.below hb t4.lt
  have t5 := t5.below hb t5.lt
  have bl := bl.trans (Below.mono hb bl.size)
  clear hb
  obtain ⟨c0_0, c0_1⟩ := t3.cells2
  obtain ⟨c1_0, c1_1⟩ := t4.cells2
  obtain ⟨c2_0, c2_1⟩ := t5.cells2
  go_wp2_with fail
  clear c0_0 c0_1 c1_0 c1_1 c2_0 c2_1
  have t3 := (t3.alloc (.cells #[.bool (sg x), .string (mg x), .bool (sg y), .string (mg y), .bool (sg z), .string (mg z)] 23))
  have t4 := (t4.alloc (.cells #[.bool (sg x), .string (mg x), .bool (sg y), .string (mg y), .bool (sg z), .string (mg z)] 23))
  have t5 := (t5.alloc (.cells #[.bool (sg x), .string (mg x), .bool (sg y), .string (mg y), .bool (sg z), .string (mg z)] 23))
  have t13 := Ob.new (W2) 23 #[.bool (sg x), .string (mg x), .bool (sg y), .string (mg y), .bool (sg z), .string (mg z)]
  have bl := (bl.alloc (by have := bl.size; (try simp only [World.size_alloc] at *); omega) (.cells #[.bool (sg x), .string (mg x), .bool (sg y), .string (mg y), .bool (sg z), .string (mg z)] 23))
  try simp only [World.size_alloc] at t3 t4 t5 t13
  generalize hn3 : W2.heap.size = bk3 at t13 ⊢
  clear hn3
  generalize World.alloc W2 _ = W3 at t3 t4 t5 t13 bl ⊢
  refine (HRI.out _ 3 W3 (rdi_3 t13)).mono ?_
  rintro e W4 ⟨rfl, hb⟩
  have t3 := t3.below hb t3.lt
  have t4 := t4.below hb t4.lt
  have t5 := t5.below hb t5.lt
  have t13 := t13.below hb t13.lt
  have bl := bl.trans (Below.mono hb bl.size)
  clear hb
  obtain ⟨c0_0, c0_1⟩ := t3.cells2
  obtain ⟨c1_0, c1_1⟩ := t4.cells2
  go_wp2_with fail
  clear c0_0 c0_1 c1_0 c1_1
  refine (C1.out W4).mono ?_
  rintro e W5 ⟨rfl, hb⟩
  have t3 := t3.below hb t3.lt
  have t4 := t4.below hb t4.lt
  have t5 := t5.below hb t5.lt
  have t13 := t13.below hb t13.lt
  have bl := bl.trans (Below.mono hb bl.size)
  clear hb
  go_wp2_with fail
  refine region_qb (by kernel_rfl) (by kernel_rfl) ?_
  refine qb_mv (.int .i64 1) _ (.inl rfl) (by kernel_rfl) (by rfl) ?_
  simp only [Act.put, List.setIfInBounds_toArray, List.set_cons_zero, List.set_cons_succ]
  refine qb_run (vI y) (by kernel_rfl) (fun w' hC => by obtain ⟨q0, q1⟩ := (t4.below hC t4.lt).cells2; go_simp) ?_
  simp only [Act.put, List.setIfInBounds_toArray, List.set_cons_zero, List.set_cons_succ]
  refine qb_run (vI x) (by kernel_rfl) (fun w' hC => by obtain ⟨q0, q1⟩ := (t3.below hC t3.lt).cells2; go_simp) ?_
  simp only [Act.put, List.setIfInBounds_toArray, List.set_cons_zero, List.set_cons_succ]
  refine qb_call (.int .i64 (-1)) 20 #[vI y, vI x] (by kernel_rfl) (fun w' => by go_simp) (fun w' hC => (C2.out w').mono (fun e w'' h => ⟨h.1, hC.step h.2⟩)) ?_
  simp only [Act.put, List.setIfInBounds_toArray, List.set_cons_zero, List.set_cons_succ]
  refine qb_run (.int .i64 1) (by kernel_rfl) (fun w' hC => by go_simp <;> rfl) ?_
  simp only [Act.put, List.setIfInBounds_toArray, List.set_cons_zero, List.set_cons_succ]
  refine qb_run (.bool false) (by kernel_rfl) (fun w' hC => by go_simp) ?_
  simp only [Act.put, List.setIfInBounds_toArray, List.set_cons_zero, List.set_cons_succ]
  refine qb_mv (.bool false) _ (.inl rfl) (by kernel_rfl) (by rfl) ?_
  simp only [Act.put, List.setIfInBounds_toArray, List.set_cons_zero, List.set_cons_succ]
  refine qb_mv (.int .i64 1) _ (.inl rfl) (by kernel_rfl) (by rfl) ?_
  simp only [Act.put, List.setIfInBounds_toArray, List.set_cons_zero, List.set_cons_succ]
  refine qb_run (.bool false) (by kernel_rfl) (fun w' hC => by go_simp) ?_
  simp only [Act.put, List.setIfInBounds_toArray, List.set_cons_zero, List.set_cons_succ]
  refine qb_run (vI x) (by kernel_rfl) (fun w' hC => by obtain ⟨q0, q1⟩ := (t3.below hC t3.lt).cells2; go_simp) ?_
  simp only [Act.put, List.setIfInBounds_toArray, List.set_cons_zero, List.set_cons_succ]
  refine qb_run (vI y) (by kernel_rfl) (fun w' hC => by obtain ⟨q0, q1⟩ := (t4.below hC t4.lt).cells2; go_simp) ?_
  simp only [Act.put, List.setIfInBounds_toArray, List.set_cons_zero, List.set_cons_succ]
  refine qb_run (.bool false) (by kernel_rfl) (fun w' hC => by go_simp; exact HNE.out) ?_
  simp only [Act.put, List.setIfInBounds_toArray, List.set_cons_zero, List.set_cons_succ]
  refine qb_run (.bool false) (by kernel_rfl) (fun w' hC => by go_simp) ?_
  simp only [Act.put, List.setIfInBounds_toArray, List.set_cons_zero, List.set_cons_succ]
  refine qb_run (.bool false) (by kernel_rfl) (fun w' hC => by go_simp) ?_
  simp only [Act.put, List.setIfInBounds_toArray, List.set_cons_zero, List.set_cons_succ]
  refine qb_mv (.bool false) _ (.inl rfl) (by kernel_rfl) (by rfl) ?_
  simp only [Act.put, List.setIfInBounds_toArray, List.set_cons_zero, List.set_cons_succ]
  refine qb_mv (.int .i64 1) _ (.inl rfl) (by kernel_rfl) (by rfl) ?_
  simp only [Act.put, List.setIfInBounds_toArray, List.set_cons_zero, List.set_cons_succ]
  refine qb_run (.bool false) (by kernel_rfl) (fun w' hC => by go_simp) ?_
  simp only [Act.put, List.setIfInBounds_toArray, List.set_cons_zero, List.set_cons_succ]
  refine qb_mv (.bool false) _ (.inl rfl) (by kernel_rfl) (by rfl) ?_
  simp only [Act.put, List.setIfInBounds_toArray, List.set_cons_zero, List.set_cons_succ]
  refine qb_skip (by kernel_rfl) ?_
  simp only [Act.put, List.setIfInBounds_toArray, List.set_cons_zero, List.set_cons_succ]
  refine qb_skip (by kernel_rfl) ?_
  simp only [Act.put, List.setIfInBounds_toArray, List.set_cons_zero, List.set_cons_succ]
  refine qb_skip (by kernel_rfl) ?_
  simp only [Act.put, List.setIfInBounds_toArray, List.set_cons_zero, List.set_cons_succ]
  refine qb_skip (by kernel_rfl) ?_
  simp only [Act.put, List.setIfInBounds_toArray, List.set_cons_zero, List.set_cons_succ]
  refine qb_run (.bool false) (by kernel_rfl) (fun w' hC => by go_simp) ?_
  simp only [Act.put, List.setIfInBounds_toArray, List.set_cons_zero, List.set_cons_succ]
  refine qb_mv (.bool false) _ (.inl rfl) (by kernel_rfl) (by rfl) ?_
  simp only [Act.put, List.setIfInBounds_toArray, List.set_cons_zero, List.set_cons_succ]
  refine qb_skip (by kernel_rfl) ?_
  simp only [Act.put, List.setIfInBounds_toArray, List.set_cons_zero, List.set_cons_succ]
  refine qb_skip (by kernel_rfl) ?_
  simp only [Act.put, List.setIfInBounds_toArray, List.set_cons_zero, List.set_cons_succ]
  refine qb_skip (by kernel_rfl) ?_
  simp only [Act.put, List.setIfInBounds_toArray, List.set_cons_zero, List.set_cons_succ]
  refine qb_skip (by kernel_rfl) ?_
  simp only [Act.put, List.setIfInBounds_toArray, List.set_cons_zero, List.set_cons_succ]
  refine qb_run (.bool false) (by kernel_rfl) (fun w' hC => by go_simp) ?_
  simp only [Act.put, List.setIfInBounds_toArray, List.set_cons_zero, List.set_cons_succ]
  refine qb_run (.bool false) (by kernel_rfl) (fun w' hC => by go_simp) ?_
  simp only [Act.put, List.setIfInBounds_toArray, List.set_cons_zero, List.set_cons_succ]
  refine qb_mv (.bool false) _ (.inl rfl) (by kernel_rfl) (by rfl) ?_
  simp only [Act.put, List.setIfInBounds_toArray, List.set_cons_zero, List.set_cons_succ]
  refine qb_run (vI x) (by kernel_rfl) (fun w' hC => by obtain ⟨q0, q1⟩ := (t3.below hC t3.lt).cells2; go_simp) ?_
  simp only [Act.put, List.setIfInBounds_toArray, List.set_cons_zero, List.set_cons_succ]
  refine qb_run (vI z) (by kernel_rfl) (fun w' hC => by obtain ⟨q0, q1⟩ := (t5.below hC t5.lt).cells2; go_simp) ?_
  simp only [Act.put, List.setIfInBounds_toArray, List.set_cons_zero, List.set_cons_succ]
  refine qb_call (vI xz) 13 #[vI x, vI z] (by kernel_rfl) (fun w' => by go_simp) (fun w' hC => (A1.out w').mono (fun e w'' h => ⟨h.1, hC.step h.2⟩)) ?_
  simp only [Act.put, List.setIfInBounds_toArray, List.set_cons_zero, List.set_cons_succ]
  refine qb_run (vI y) (by kernel_rfl) (fun w' hC => by obtain ⟨q0, q1⟩ := (t4.below hC t4.lt).cells2; go_simp) ?_
  simp only [Act.put, List.setIfInBounds_toArray, List.set_cons_zero, List.set_cons_succ]
  refine qb_run (vI z) (by kernel_rfl) (fun w' hC => by obtain ⟨q0, q1⟩ := (t5.below hC t5.lt).cells2; go_simp) ?_
  simp only [Act.put, List.setIfInBounds_toArray, List.set_cons_zero, List.set_cons_succ]
  refine qb_call (vI yz) 13 #[vI y, vI z] (by kernel_rfl) (fun w' => by go_simp) (fun w' hC => (A2.out w').mono (fun e w'' h => ⟨h.1, hC.step h.2⟩)) ?_
  simp only [Act.put, List.setIfInBounds_toArray, List.set_cons_zero, List.set_cons_succ]
  refine qb_call (.int .i64 1) 20 #[vI xz, vI yz] (by kernel_rfl) (fun w' => by go_simp) (fun w' hC => (C5.out w').mono (fun e w'' h => ⟨h.1, hC.step h.2⟩)) ?_
  simp only [Act.put, List.setIfInBounds_toArray, List.set_cons_zero, List.set_cons_succ]
  refine qb_mv (.int .i64 1) _ (.inl rfl) (by kernel_rfl) (by rfl) ?_
  simp only [Act.put, List.setIfInBounds_toArray, List.set_cons_zero, List.set_cons_succ]
  refine qb_run (.bool false) (by kernel_rfl) (fun w' hC => by go_simp) ?_
  simp only [Act.put, List.setIfInBounds_toArray, List.set_cons_zero, List.set_cons_succ]
  refine qb_run (.bool false) (by kernel_rfl) (fun w' hC => by go_simp) ?_
  simp only [Act.put, List.setIfInBounds_toArray, List.set_cons_zero, List.set_cons_succ]
  refine qb_mv (.bool false) _ (.inl rfl) (by kernel_rfl) (by rfl) ?_
  simp only [Act.put, List.setIfInBounds_toArray, List.set_cons_zero, List.set_cons_succ]
  refine qb_run (vI x) (by kernel_rfl) (fun w' hC => by obtain ⟨q0, q1⟩ := (t3.below hC t3.lt).cells2; go_simp) ?_
  simp only [Act.put, List.setIfInBounds_toArray, List.set_cons_zero, List.set_cons_succ]
  refine qb_run (vI y) (by kernel_rfl) (fun w' hC => by obtain ⟨q0, q1⟩ := (t4.below hC t4.lt).cells2; go_simp) ?_
  simp only [Act.put, List.setIfInBounds_toArray, List.set_cons_zero, List.set_cons_succ]
  refine qb_call (vI e) 15 #[vI x, vI y] (by kernel_rfl) (fun w' => by go_simp) (fun w' hC => (S1.out w').mono (fun e w'' h => ⟨h.1, hC.step h.2⟩)) ?_
  simp only [Act.put, List.setIfInBounds_toArray, List.set_cons_zero, List.set_cons_succ]
  refine qb_call (.int .i64 1) 19 #[vI e] (by kernel_rfl) (fun w' => by go_simp) (fun w' hC => (G1.out w').mono (fun e w'' h => ⟨h.1, hC.step h.2⟩)) ?_
  simp only [Act.put, List.setIfInBounds_toArray, List.set_cons_zero, List.set_cons_succ]
  refine qb_mv (.int .i64 1) _ (.inl rfl) (by kernel_rfl) (by rfl) ?_
  simp only [Act.put, List.setIfInBounds_toArray, List.set_cons_zero, List.set_cons_succ]
  refine qb_run (.bool false) (by kernel_rfl) (fun w' hC => by go_simp) ?_
  simp only [Act.put, List.setIfInBounds_toArray, List.set_cons_zero, List.set_cons_succ]
  refine qb_run (.bool false) (by kernel_rfl) (fun w' hC => by go_simp) ?_
  simp only [Act.put, List.setIfInBounds_toArray, List.set_cons_zero, List.set_cons_succ]
  refine wpQuiet_nil (fun W6 hb => ?_)
  have t3 := t3.below hb t3.lt
  have t4 := t4.below hb t4.lt
  have t5 := t5.below hb t5.lt
  have t13 := t13.below hb t13.lt
  have bl := bl.trans (Below.mono hb bl.size)
  clear hb
  go_wp2_with fail
  refine region_qb (by kernel_rfl) (by kernel_rfl) ?_
  refine qb_run (vI z) (by kernel_rfl) (fun w' hC => by obtain ⟨q0, q1⟩ := (t5.below hC t5.lt).cells2; go_simp) ?_
  simp only [Act.put, List.setIfInBounds_toArray, List.set_cons_zero, List.set_cons_succ]
  refine qb_call (.int .i64 sc) 19 #[vI z] (by kernel_rfl) (fun w' => by go_simp) (fun w' hC => (G2.out w').mono (fun e w'' h => ⟨h.1, hC.step h.2⟩)) ?_
  simp only [Act.put, List.setIfInBounds_toArray, List.set_cons_zero, List.set_cons_succ]
  refine qb_run (.bool true) (by kernel_rfl) (fun w' hC => by go_simp) ?_
  simp only [Act.put, List.setIfInBounds_toArray, List.set_cons_zero, List.set_cons_succ]
  refine qb_mv (.bool true) _ (.inl rfl) (by kernel_rfl) (by rfl) ?_
  simp only [Act.put, List.setIfInBounds_toArray, List.set_cons_zero, List.set_cons_succ]
  refine qb_run (vI x) (by kernel_rfl) (fun w' hC => by obtain ⟨q0, q1⟩ := (t3.below hC t3.lt).cells2; go_simp) ?_
  simp only [Act.put, List.setIfInBounds_toArray, List.set_cons_zero, List.set_cons_succ]
  refine qb_run (vI z) (by kernel_rfl) (fun w' hC => by obtain ⟨q0, q1⟩ := (t5.below hC t5.lt).cells2; go_simp) ?_
  simp only [Act.put, List.setIfInBounds_toArray, List.set_cons_zero, List.set_cons_succ]
  refine qb_call (vI p) 14 #[vI x, vI z] (by kernel_rfl) (fun w' => by go_simp) (fun w' hC => (M1.out w').mono (fun e w'' h => ⟨h.1, hC.step h.2⟩)) ?_
  simp only [Act.put, List.setIfInBounds_toArray, List.set_cons_zero, List.set_cons_succ]
  refine qb_run (vI y) (by kernel_rfl) (fun w' hC => by obtain ⟨q0, q1⟩ := (t4.below hC t4.lt).cells2; go_simp) ?_
  simp only [Act.put, List.setIfInBounds_toArray, List.set_cons_zero, List.set_cons_succ]
  refine qb_run (vI z) (by kernel_rfl) (fun w' hC => by obtain ⟨q0, q1⟩ := (t5.below hC t5.lt).cells2; go_simp) ?_
  simp only [Act.put, List.setIfInBounds_toArray, List.set_cons_zero, List.set_cons_succ]
  refine qb_call (vI q) 14 #[vI y, vI z] (by kernel_rfl) (fun w' => by go_simp) (fun w' hC => (M2.out w').mono (fun e w'' h => ⟨h.1, hC.step h.2⟩)) ?_
  simp only [Act.put, List.setIfInBounds_toArray, List.set_cons_zero, List.set_cons_succ]
  refine qb_call (.int .i64 1) 20 #[vI p, vI q] (by kernel_rfl) (fun w' => by go_simp) (fun w' hC => (C6.out w').mono (fun e w'' h => ⟨h.1, hC.step h.2⟩)) ?_
  simp only [Act.put, List.setIfInBounds_toArray, List.set_cons_zero, List.set_cons_succ]
  refine qb_mv (.int .i64 1) _ (.inl rfl) (by kernel_rfl) (by rfl) ?_
  simp only [Act.put, List.setIfInBounds_toArray, List.set_cons_zero, List.set_cons_succ]
  refine qb_run (.bool false) (by kernel_rfl) (fun w' hC => by go_simp) ?_
  simp only [Act.put, List.setIfInBounds_toArray, List.set_cons_zero, List.set_cons_succ]
  refine qb_run (.bool false) (by kernel_rfl) (fun w' hC => by go_simp) ?_
  simp only [Act.put, List.setIfInBounds_toArray, List.set_cons_zero, List.set_cons_succ]
  refine wpQuiet_nil (fun W7 hb => ?_)
  have t3 := t3.below hb t3.lt
  have t4 := t4.below hb t4.lt
  have t5 := t5.below hb t5.lt
  have t13 := t13.below hb t13.lt
  have bl := bl.trans (Below.mono hb bl.size)
  clear hb
  go_wp2_with fail
  refine region_qb (by kernel_rfl) (by kernel_rfl) ?_
  refine qb_run (vI x) (by kernel_rfl) (fun w' hC => by obtain ⟨q0, q1⟩ := (t3.below hC t3.lt).cells2; go_simp) ?_
  simp only [Act.put, List.setIfInBounds_toArray, List.set_cons_zero, List.set_cons_succ]
  refine qb_run (vI x) (by kernel_rfl) (fun w' hC => by obtain ⟨q0, q1⟩ := (t3.below hC t3.lt).cells2; go_simp) ?_
  simp only [Act.put, List.setIfInBounds_toArray, List.set_cons_zero, List.set_cons_succ]
  refine qb_call (vI xx) 13 #[vI x, vI x] (by kernel_rfl) (fun w' => by go_simp) (fun w' hC => (A3.out w').mono (fun e w'' h => ⟨h.1, hC.step h.2⟩)) ?_
  simp only [Act.put, List.setIfInBounds_toArray, List.set_cons_zero, List.set_cons_succ]
  refine qb_call (.int .i64 (bi + mb)) 21 #[vI xx] (by kernel_rfl) (fun w' => by go_simp) (fun w' hC => (B1.out w').mono (fun e w'' h => ⟨h.1, hC.step h.2⟩)) ?_
  simp only [Act.put, List.setIfInBounds_toArray, List.set_cons_zero, List.set_cons_succ]
  refine qb_run (vI x) (by kernel_rfl) (fun w' hC => by obtain ⟨q0, q1⟩ := (t3.below hC t3.lt).cells2; go_simp) ?_
  simp only [Act.put, List.setIfInBounds_toArray, List.set_cons_zero, List.set_cons_succ]
  refine qb_call (.int .i64 bi) 21 #[vI x] (by kernel_rfl) (fun w' => by go_simp) (fun w' hC => (B2.out w').mono (fun e w'' h => ⟨h.1, hC.step h.2⟩)) ?_
  simp only [Act.put, List.setIfInBounds_toArray, List.set_cons_zero, List.set_cons_succ]
  refine qb_run (vI x) (by kernel_rfl) (fun w' hC => by obtain ⟨q0, q1⟩ := (t3.below hC t3.lt).cells2; go_simp) ?_
  simp only [Act.put, List.setIfInBounds_toArray, List.set_cons_zero, List.set_cons_succ]
  refine qb_call (.int .i64 bi) 21 #[vI x] (by kernel_rfl) (fun w' => by go_simp) (fun w' hC => (B2.out w').mono (fun e w'' h => ⟨h.1, hC.step h.2⟩)) ?_
  simp only [Act.put, List.setIfInBounds_toArray, List.set_cons_zero, List.set_cons_succ]
  refine qb_run (.int .i64 mb) (by kernel_rfl) (fun w' hC => by have h1 := HMB.out; go_simp) ?_
  simp only [Act.put, List.setIfInBounds_toArray, List.set_cons_zero, List.set_cons_succ]
  refine qb_run (.int .i64 (bi + mb)) (by kernel_rfl) (fun w' hC => by have h1 := HWB.out; go_simp) ?_
  simp only [Act.put, List.setIfInBounds_toArray, List.set_cons_zero, List.set_cons_succ]
  refine qb_run (.bool true) (by kernel_rfl) (fun w' hC => by go_simp) ?_
  simp only [Act.put, List.setIfInBounds_toArray, List.set_cons_zero, List.set_cons_succ]
  refine qb_mv (.bool true) _ (.inr rfl) (by kernel_rfl) (by rfl) ?_
  simp only [Act.put, List.setIfInBounds_toArray, List.set_cons_zero, List.set_cons_succ]
  refine wpQuiet_nil (fun W8 hb => ?_)
  have t3 := t3.below hb t3.lt
  have t4 := t4.below hb t4.lt
  have t5 := t5.below hb t5.lt
  have t13 := t13.below hb t13.lt
  have bl := bl.trans (Below.mono hb bl.size)
  clear hb
  go_wp2_with fail
  go_ret
  exact ⟨rfl, bl⟩

end Go.Proofs.YtboolbcckfldaaaDoor
