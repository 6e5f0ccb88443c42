import Derived.Test.YtboolbcckfldaaaDoorLawB
import Derived.Test.YtboolbcckfldaaaDoorOb
import Derived.Test.YtboolbcckfldaaaDoorReg
namespace Go.Proofs.YtboolbcckfldaaaDoor
open Go.RowKit
set_option linter.unusedVariables false
set_option linter.unusedSimpArgs false

theorem rdi_one {w : World} {t : TypeId} {b : Nat} {a : Bool} {r : ByteArray} (h : Ob w b t #[.bool a, .string r]) : RdI w (some ⟨b, 0, none⟩) [(a, r)] := fun i hi => by
  have : i = 0 := by simp at hi; omega
  subst this
  exact ⟨b, 0, rfl, h.cells2.1, h.cells2.2⟩

/- the ways where the argument is right -/
set_option maxHeartbeats 2000000 in
set_option maxRecDepth 100000 in
theorem Roots_neg (x p q r s : Int) (j k : Nat) (hj : j < 256) (hk : k < 256) (w : World)
    (HAW : ∀ W, Below w.heap.size w W → Calls Tryd.prog 10 #[] W (RetB true W))
    (HRI : ∀ (A : Option Addr) c W, RdI W A [(sg x, mg x)] → Calls Tryd.prog 11 #[.slice A 1 c] W (RetB true W))
    (P1 : ∀ W, Calls Tryd.prog 17 #[vI x, .int .i64 ((j : Int) % 6)] W (RetIE p 0 W))
    (P2 : ∀ W, Calls Tryd.prog 17 #[vI x, .int .i64 ((k : Int) % 6)] W (RetIE q 0 W))
    (P3 : ∀ W, Calls Tryd.prog 17 #[vI x, .int .i64 ((j : Int) % 6 + (k : Int) % 6)] W (RetIE r 0 W))
    (M1 : ∀ W, Calls Tryd.prog 14 #[vI p, vI q] W (RetI r W))
    (SQ : ∀ W, Calls Tryd.prog 18 #[vI x] W (RetIE s 2 W))
    (SG : ∀ W, Calls Tryd.prog 19 #[vI x] W (RetN (-1) W)) :
    Calls Tryd.prog 4 #[vI x, .int .u8 j, .int .u8 k] w (RetB true w) := by
  replace HAW := Lib.hid HAW
  replace HRI := Lib.hid HRI
  replace P1 := Lib.hid P1
  replace P2 := Lib.hid P2
  replace P3 := Lib.hid P3
  replace M1 := Lib.hid M1
  replace SQ := Lib.hid SQ
  replace SG := Lib.hid SG
  go_enter Tryd.func4, Tryd.ntmps4
  go_wp2_with fail
  have t3 := Ob.new (w) 23 #[.bool (sg x), .string (mg x)]
  have bl := ((Below.refl w.heap.size w).alloc (Nat.le_refl _) (.cells #[.bool (sg x), .string (mg x)] 23))
  try simp only [World.size_alloc] at t3
  generalize World.alloc w _ = W1 at t3 bl ⊢
  refine (HAW.out W1 bl).mono ?_
  rintro e W2 ⟨rfl, hb⟩
  have t3 := t3.below hb t3.lt
  have bl := bl.trans (Below.mono hb bl.size)
  clear hb
  obtain ⟨c0_0, c0_1⟩ := t3.cells2
  go_wp2_with fail
  clear c0_0 c0_1
  have t3 := (t3.alloc (.cells #[.bool (sg x), .string (mg x)] 23))
  have t21 := Ob.new (W2) 23 #[.bool (sg x), .string (mg x)]
  have bl := (bl.alloc (by have := bl.size; (try simp only [World.size_alloc] at *); omega) (.cells #[.bool (sg x), .string (mg x)] 23))
  try simp only [World.size_alloc] at t3 t21
  generalize hn3 : W2.heap.size = bk3 at t21 ⊢
  clear hn3
  generalize World.alloc W2 _ = W3 at t3 t21 bl ⊢
  refine (HRI.out _ 1 W3 (rdi_one t21)).mono ?_
  rintro e W4 ⟨rfl, hb⟩
  have t3 := t3.below hb t3.lt
  have t21 := t21.below hb t21.lt
  have bl := bl.trans (Below.mono hb bl.size)
  clear hb
  obtain ⟨c0_0, c0_1⟩ := t3.cells2
  go_wp2_with fail
  clear c0_0 c0_1
  refine (P1.out W4).mono ?_
  rintro e W5 ⟨rfl, hb⟩
  have t3 := t3.below hb t3.lt
  have t21 := t21.below hb t21.lt
  have bl := bl.trans (Below.mono hb bl.size)
  clear hb
  obtain ⟨c0_0, c0_1⟩ := (t3.alloc (.cells #[.bool (sg p), .string (mg p)] 23)).cells2
  go_wp2_with fail
  clear c0_0 c0_1
  have t3 := (t3.alloc (.cells #[.bool (sg p), .string (mg p)] 23))
  have t21 := (t21.alloc (.cells #[.bool (sg p), .string (mg p)] 23))
  have t9 := Ob.new (W5) 23 #[.bool (sg p), .string (mg p)]
  have bl := (bl.alloc (by have := bl.size; (try simp only [World.size_alloc] at *); omega) (.cells #[.bool (sg p), .string (mg p)] 23))
  try simp only [World.size_alloc] at t3 t21 t9
  generalize hn6 : W5.heap.size = bk6 at t9 ⊢
  clear hn6
  generalize World.alloc W5 _ = W6 at t3 t21 t9 bl ⊢
  refine (P2.out W6).mono ?_
  rintro e W7 ⟨rfl, hb⟩
  have t3 := t3.below hb t3.lt
  have t21 := t21.below hb t21.lt
  have t9 := t9.below hb t9.lt
  have bl := bl.trans (Below.mono hb bl.size)
  clear hb
  obtain ⟨c0_0, c0_1⟩ := (t3.alloc (.cells #[.bool (sg q), .string (mg q)] 23)).cells2
  go_wp2_with fail
  clear c0_0 c0_1
  have t3 := (t3.alloc (.cells #[.bool (sg q), .string (mg q)] 23))
  have t21 := (t21.alloc (.cells #[.bool (sg q), .string (mg q)] 23))
  have t9 := (t9.alloc (.cells #[.bool (sg q), .string (mg q)] 23))
  have t11 := Ob.new (W7) 23 #[.bool (sg q), .string (mg q)]
  have bl := (bl.alloc (by have := bl.size; (try simp only [World.size_alloc] at *); omega) (.cells #[.bool (sg q), .string (mg q)] 23))
  try simp only [World.size_alloc] at t3 t21 t9 t11
  generalize hn8 : W7.heap.size = bk8 at t11 ⊢
  clear hn8
  generalize World.alloc W7 _ = W8 at t3 t21 t9 t11 bl ⊢
  refine (P3.out W8).mono ?_
  rintro e W9 ⟨rfl, hb⟩
  have t3 := t3.below hb t3.lt
  have t21 := t21.below hb t21.lt
  have t9 := t9.below hb t9.lt
  have t11 := t11.below hb t11.lt
  have bl := bl.trans (Below.mono hb bl.size)
  clear hb
  go_wp2_with fail
  have t3 := (t3.alloc (.cells #[.bool (sg r), .string (mg r)] 23))
  have t21 := (t21.alloc (.cells #[.bool (sg r), .string (mg r)] 23))
  have t9 := (t9.alloc (.cells #[.bool (sg r), .string (mg r)] 23))
  have t11 := (t11.alloc (.cells #[.bool (sg r), .string (mg r)] 23))
  have t13 := Ob.new (W9) 23 #[.bool (sg r), .string (mg r)]
  have bl := (bl.alloc (by have := bl.size; (try simp only [World.size_alloc] at *); omega) (.cells #[.bool (sg r), .string (mg r)] 23))
  try simp only [World.size_alloc] at t3 t21 t9 t11 t13
  generalize hn10 : W9.heap.size = bk10 at t13 ⊢
  clear hn10
  generalize World.alloc W9 _ = W10 at t3 t21 t9 t11 t13 bl ⊢
  refine region_qb (by kernel_rfl) (by kernel_rfl) ?_
  refine qb_mv (.int .i64 0) _ (.inl rfl) (by kernel_rfl) (by rfl) ?_
  simp only [Act.put, List.setIfInBounds_toArray, List.set_cons_zero, List.set_cons_succ]
  refine qb_run (.bool false) (by kernel_rfl) (fun w' hC => by go_simp) ?_
  simp only [Act.put, List.setIfInBounds_toArray, List.set_cons_zero, List.set_cons_succ]
  refine qb_mv (.bool false) _ (.inl rfl) (by kernel_rfl) (by rfl) ?_
  simp only [Act.put, List.setIfInBounds_toArray, List.set_cons_zero, List.set_cons_succ]
  refine qb_mv (.int .i64 0) _ (.inl rfl) (by kernel_rfl) (by rfl) ?_
  simp only [Act.put, List.setIfInBounds_toArray, List.set_cons_zero, List.set_cons_succ]
  refine qb_run (.bool false) (by kernel_rfl) (fun w' hC => by go_simp) ?_
  simp only [Act.put, List.setIfInBounds_toArray, List.set_cons_zero, List.set_cons_succ]
  refine qb_run (.bool false) (by kernel_rfl) (fun w' hC => by go_simp) ?_
  simp only [Act.put, List.setIfInBounds_toArray, List.set_cons_zero, List.set_cons_succ]
  refine qb_mv (.bool false) _ (.inl rfl) (by kernel_rfl) (by rfl) ?_
  simp only [Act.put, List.setIfInBounds_toArray, List.set_cons_zero, List.set_cons_succ]
  refine qb_mv (.int .i64 0) _ (.inl rfl) (by kernel_rfl) (by rfl) ?_
  simp only [Act.put, List.setIfInBounds_toArray, List.set_cons_zero, List.set_cons_succ]
  refine qb_run (.bool false) (by kernel_rfl) (fun w' hC => by go_simp) ?_
  simp only [Act.put, List.setIfInBounds_toArray, List.set_cons_zero, List.set_cons_succ]
  refine qb_run (.bool false) (by kernel_rfl) (fun w' hC => by go_simp) ?_
  simp only [Act.put, List.setIfInBounds_toArray, List.set_cons_zero, List.set_cons_succ]
  refine qb_mv (.bool false) _ (.inl rfl) (by kernel_rfl) (by rfl) ?_
  simp only [Act.put, List.setIfInBounds_toArray, List.set_cons_zero, List.set_cons_succ]
  refine qb_run (vI p) (by kernel_rfl) (fun w' hC => by obtain ⟨q0, q1⟩ := (t9.below hC t9.lt).cells2; go_simp) ?_
  simp only [Act.put, List.setIfInBounds_toArray, List.set_cons_zero, List.set_cons_succ]
  refine qb_run (vI q) (by kernel_rfl) (fun w' hC => by obtain ⟨q0, q1⟩ := (t11.below hC t11.lt).cells2; go_simp) ?_
  simp only [Act.put, List.setIfInBounds_toArray, List.set_cons_zero, List.set_cons_succ]
  refine qb_call (vI r) 14 #[vI p, vI q] (by kernel_rfl) (fun w' => by go_simp) (fun w' hC => (M1.out w').mono (fun e w'' h => ⟨h.1, hC.step h.2⟩)) ?_
  simp only [Act.put, List.setIfInBounds_toArray, List.set_cons_zero, List.set_cons_succ]
  refine qb_run (vI r) (by kernel_rfl) (fun w' hC => by obtain ⟨q0, q1⟩ := (t13.below hC t13.lt).cells2; go_simp) ?_
  simp only [Act.put, List.setIfInBounds_toArray, List.set_cons_zero, List.set_cons_succ]
  refine qb_run (.bool false) (by kernel_rfl) (fun w' hC => by go_simp) ?_
  simp only [Act.put, List.setIfInBounds_toArray, List.set_cons_zero, List.set_cons_succ]
  refine qb_run (.bool false) (by kernel_rfl) (fun w' hC => by go_simp) ?_
  simp only [Act.put, List.setIfInBounds_toArray, List.set_cons_zero, List.set_cons_succ]
  refine wpQuiet_nil (fun W11 hb => ?_)
  have t3 := t3.below hb t3.lt
  have t21 := t21.below hb t21.lt
  have t9 := t9.below hb t9.lt
  have t11 := t11.below hb t11.lt
  have t13 := t13.below hb t13.lt
  have bl := bl.trans (Below.mono hb bl.size)
  clear hb
  obtain ⟨c0_0, c0_1⟩ := t3.cells2
  go_wp2_with fail
  clear c0_0 c0_1
  refine (SQ.out W11).mono ?_
  rintro e W12 ⟨rfl, hb⟩
  have t3 := t3.below hb t3.lt
  have t21 := t21.below hb t21.lt
  have t9 := t9.below hb t9.lt
  have t11 := t11.below hb t11.lt
  have t13 := t13.below hb t13.lt
  have bl := bl.trans (Below.mono hb bl.size)
  clear hb
  obtain ⟨c0_0, c0_1⟩ := (t3.alloc (.cells #[.bool (sg s), .string (mg s)] 23)).cells2
  go_wp2_with fail
  clear c0_0 c0_1
  have t3 := (t3.alloc (.cells #[.bool (sg s), .string (mg s)] 23))
  have t21 := (t21.alloc (.cells #[.bool (sg s), .string (mg s)] 23))
  have t9 := (t9.alloc (.cells #[.bool (sg s), .string (mg s)] 23))
  have t11 := (t11.alloc (.cells #[.bool (sg s), .string (mg s)] 23))
  have t13 := (t13.alloc (.cells #[.bool (sg s), .string (mg s)] 23))
  have t15 := Ob.new (W12) 23 #[.bool (sg s), .string (mg s)]
  have bl := (bl.alloc (by have := bl.size; (try simp only [World.size_alloc] at *); omega) (.cells #[.bool (sg s), .string (mg s)] 23))
  try simp only [World.size_alloc] at t3 t21 t9 t11 t13 t15
  generalize hn13 : W12.heap.size = bk13 at t15 ⊢
  clear hn13
  generalize World.alloc W12 _ = W13 at t3 t21 t9 t11 t13 t15 bl ⊢
  refine (SG.out W13).mono ?_
  rintro e W14 ⟨rfl, hb⟩
  have t3 := t3.below hb t3.lt
  have t21 := t21.below hb t21.lt
  have t9 := t9.below hb t9.lt
  have t11 := t11.below hb t11.lt
  have t13 := t13.below hb t13.lt
  have t15 := t15.below hb t15.lt
  have bl := bl.trans (Below.mono hb bl.size)
  clear hb
  go_wp2_with fail
  go_ret
  exact ⟨rfl, bl⟩
set_option maxHeartbeats 2000000 in
set_option maxRecDepth 100000 in
theorem Roots_pos (x p q r s one t ss tt : Int) (j k : Nat) (hj : j < 256) (hk : k < 256) (w : World)
    (HAW : ∀ W, Below w.heap.size w W → Calls Tryd.prog 10 #[] W (RetB true W))
    (HRI : ∀ (A : Option Addr) c W, RdI W A [(sg x, mg x)] → Calls Tryd.prog 11 #[.slice A 1 c] W (RetB true W))
    (P1 : ∀ W, Calls Tryd.prog 17 #[vI x, .int .i64 ((j : Int) % 6)] W (RetIE p 0 W))
    (P2 : ∀ W, Calls Tryd.prog 17 #[vI x, .int .i64 ((k : Int) % 6)] W (RetIE q 0 W))
    (P3 : ∀ W, Calls Tryd.prog 17 #[vI x, .int .i64 ((j : Int) % 6 + (k : Int) % 6)] W (RetIE r 0 W))
    (M1 : ∀ W, Calls Tryd.prog 14 #[vI p, vI q] W (RetI r W))
    (SQ : ∀ W, Calls Tryd.prog 18 #[vI x] W (RetIE s 0 W)) (n1 n2 n3 n4 : Int) (h1 : 0 ≤ n1) (h2 : 0 ≤ n2) (h3 : n3 ≤ 0) (h4 : 0 < n4)
    (SG : ∀ W, Calls Tryd.prog 19 #[vI x] W (RetN n1 W))
    (O1 : ∀ W, Calls Tryd.prog 12 #[.int .i64 1] W (RetI one W))
    (A1 : ∀ W, Calls Tryd.prog 13 #[vI s, vI one] W (RetI t W))
    (S2 : ∀ W, Calls Tryd.prog 19 #[vI s] W (RetN n2 W))
    (M2 : ∀ W, Calls Tryd.prog 14 #[vI s, vI s] W (RetI ss W))
    (C1 : ∀ W, Calls Tryd.prog 20 #[vI ss, vI x] W (RetN n3 W))
    (M3 : ∀ W, Calls Tryd.prog 14 #[vI t, vI t] W (RetI tt W))
    (C2 : ∀ W, Calls Tryd.prog 20 #[vI tt, vI x] W (RetN n4 W)) :
    Calls Tryd.prog 4 #[vI x, .int .u8 j, .int .u8 k] w (RetB true w) := by
  replace HAW := Lib.hid HAW
  replace HRI := Lib.hid HRI
  replace P1 := Lib.hid P1
  replace P2 := Lib.hid P2
  replace P3 := Lib.hid P3
  replace M1 := Lib.hid M1
  replace SQ := Lib.hid SQ
  replace SG := Lib.hid SG
  replace O1 := Lib.hid O1
  replace A1 := Lib.hid A1
  replace S2 := Lib.hid S2
  replace M2 := Lib.hid M2
  replace C1 := Lib.hid C1
  replace M3 := Lib.hid M3
  replace C2 := Lib.hid C2
  go_enter Tryd.func4, Tryd.ntmps4
  go_wp2_with fail
  have t3 := Ob.new (w) 23 #[.bool (sg x), .string (mg x)]
  have bl := ((Below.refl w.heap.size w).alloc (Nat.le_refl _) (.cells #[.bool (sg x), .string (mg x)] 23))
  try simp only [World.size_alloc] at t3
  generalize World.alloc w _ = W1 at t3 bl ⊢
  refine (HAW.out W1 bl).mono ?_
  rintro e W2 ⟨rfl, hb⟩
  have t3 := t3.below hb t3.lt
  have bl := bl.trans (Below.mono hb bl.size)
  clear hb
  obtain ⟨c0_0, c0_1⟩ := t3.cells2
  go_wp2_with fail
  clear c0_0 c0_1
  have t3 := (t3.alloc (.cells #[.bool (sg x), .string (mg x)] 23))
  have t21 := Ob.new (W2) 23 #[.bool (sg x), .string (mg x)]
  have bl := (bl.alloc (by have := bl.size; (try simp only [World.size_alloc] at *); omega) (.cells #[.bool (sg x), .string (mg x)] 23))
  try simp only [World.size_alloc] at t3 t21
  generalize hn3 : W2.heap.size = bk3 at t21 ⊢
  clear hn3
  generalize World.alloc W2 _ = W3 at t3 t21 bl ⊢
  refine (HRI.out _ 1 W3 (rdi_one t21)).mono ?_
  rintro e W4 ⟨rfl, hb⟩
  have t3 := t3.below hb t3.lt
  have t21 := t21.below hb t21.lt
  have bl := bl.trans (Below.mono hb bl.size)
  clear hb
  obtain ⟨c0_0, c0_1⟩ := t3.cells2
  go_wp2_with fail
  clear c0_0 c0_1
  refine (P1.out W4).mono ?_
  rintro e W5 ⟨rfl, hb⟩
  have t3 := t3.below hb t3.lt
  have t21 := t21.below hb t21.lt
  have bl := bl.trans (Below.mono hb bl.size)
  clear hb
  obtain ⟨c0_0, c0_1⟩ := (t3.alloc (.cells #[.bool (sg p), .string (mg p)] 23)).cells2
  go_wp2_with fail
  clear c0_0 c0_1
  have t3 := (t3.alloc (.cells #[.bool (sg p), .string (mg p)] 23))
  have t21 := (t21.alloc (.cells #[.bool (sg p), .string (mg p)] 23))
  have t9 := Ob.new (W5) 23 #[.bool (sg p), .string (mg p)]
  have bl := (bl.alloc (by have := bl.size; (try simp only [World.size_alloc] at *); omega) (.cells #[.bool (sg p), .string (mg p)] 23))
  try simp only [World.size_alloc] at t3 t21 t9
  generalize hn6 : W5.heap.size = bk6 at t9 ⊢
  clear hn6
  generalize World.alloc W5 _ = W6 at t3 t21 t9 bl ⊢
  refine (P2.out W6).mono ?_
  rintro e W7 ⟨rfl, hb⟩
  have t3 := t3.below hb t3.lt
  have t21 := t21.below hb t21.lt
  have t9 := t9.below hb t9.lt
  have bl := bl.trans (Below.mono hb bl.size)
  clear hb
  obtain ⟨c0_0, c0_1⟩ := (t3.alloc (.cells #[.bool (sg q), .string (mg q)] 23)).cells2
  go_wp2_with fail
  clear c0_0 c0_1
  have t3 := (t3.alloc (.cells #[.bool (sg q), .string (mg q)] 23))
  have t21 := (t21.alloc (.cells #[.bool (sg q), .string (mg q)] 23))
  have t9 := (t9.alloc (.cells #[.bool (sg q), .string (mg q)] 23))
  have t11 := Ob.new (W7) 23 #[.bool (sg q), .string (mg q)]
  have bl := (bl.alloc (by have := bl.size; (try simp only [World.size_alloc] at *); omega) (.cells #[.bool (sg q), .string (mg q)] 23))
  try simp only [World.size_alloc] at t3 t21 t9 t11
  generalize hn8 : W7.heap.size = bk8 at t11 ⊢
  clear hn8
  generalize World.alloc W7 _ = W8 at t3 t21 t9 t11 bl ⊢
  refine (P3.out W8).mono ?_
  rintro e W9 ⟨rfl, hb⟩
  have t3 := t3.below hb t3.lt
  have t21 := t21.below hb t21.lt
  have t9 := t9.below hb t9.lt
  have t11 := t11.below hb t11.lt
  have bl := bl.trans (Below.mono hb bl.size)
  clear hb
  go_wp2_with fail
  have t3 := (t3.alloc (.cells #[.bool (sg r), .string (mg r)] 23))
  have t21 := (t21.alloc (.cells #[.bool (sg r), .string (mg r)] 23))
  have t9 := (t9.alloc (.cells #[.bool (sg r), .string (mg r)] 23))
  have t11 := (t11.alloc (.cells #[.bool (sg r), .string (mg r)] 23))
  have t13 := Ob.new (W9) 23 #[.bool (sg r), .string (mg r)]
  have bl := (bl.alloc (by have := bl.size; (try simp only [World.size_alloc] at *); omega) (.cells #[.bool (sg r), .string (mg r)] 23))
  try simp only [World.size_alloc] at t3 t21 t9 t11 t13
  generalize hn10 : W9.heap.size = bk10 at t13 ⊢
  clear hn10
  generalize World.alloc W9 _ = W10 at t3 t21 t9 t11 t13 bl ⊢
  refine region_qb (by kernel_rfl) (by kernel_rfl) ?_
  refine qb_mv (.int .i64 0) _ (.inl rfl) (by kernel_rfl) (by rfl) ?_
  simp only [Act.put, List.setIfInBounds_toArray, List.set_cons_zero, List.set_cons_succ]
  refine qb_run (.bool false) (by kernel_rfl) (fun w' hC => by go_simp) ?_
  simp only [Act.put, List.setIfInBounds_toArray, List.set_cons_zero, List.set_cons_succ]
  refine qb_mv (.bool false) _ (.inl rfl) (by kernel_rfl) (by rfl) ?_
  simp only [Act.put, List.setIfInBounds_toArray, List.set_cons_zero, List.set_cons_succ]
  refine qb_mv (.int .i64 0) _ (.inl rfl) (by kernel_rfl) (by rfl) ?_
  simp only [Act.put, List.setIfInBounds_toArray, List.set_cons_zero, List.set_cons_succ]
  refine qb_run (.bool false) (by kernel_rfl) (fun w' hC => by go_simp) ?_
  simp only [Act.put, List.setIfInBounds_toArray, List.set_cons_zero, List.set_cons_succ]
  refine qb_run (.bool false) (by kernel_rfl) (fun w' hC => by go_simp) ?_
  simp only [Act.put, List.setIfInBounds_toArray, List.set_cons_zero, List.set_cons_succ]
  refine qb_mv (.bool false) _ (.inl rfl) (by kernel_rfl) (by rfl) ?_
  simp only [Act.put, List.setIfInBounds_toArray, List.set_cons_zero, List.set_cons_succ]
  refine qb_mv (.int .i64 0) _ (.inl rfl) (by kernel_rfl) (by rfl) ?_
  simp only [Act.put, List.setIfInBounds_toArray, List.set_cons_zero, List.set_cons_succ]
  refine qb_run (.bool false) (by kernel_rfl) (fun w' hC => by go_simp) ?_
  simp only [Act.put, List.setIfInBounds_toArray, List.set_cons_zero, List.set_cons_succ]
  refine qb_run (.bool false) (by kernel_rfl) (fun w' hC => by go_simp) ?_
  simp only [Act.put, List.setIfInBounds_toArray, List.set_cons_zero, List.set_cons_succ]
  refine qb_mv (.bool false) _ (.inl rfl) (by kernel_rfl) (by rfl) ?_
  simp only [Act.put, List.setIfInBounds_toArray, List.set_cons_zero, List.set_cons_succ]
  refine qb_run (vI p) (by kernel_rfl) (fun w' hC => by obtain ⟨q0, q1⟩ := (t9.below hC t9.lt).cells2; go_simp) ?_
  simp only [Act.put, List.setIfInBounds_toArray, List.set_cons_zero, List.set_cons_succ]
  refine qb_run (vI q) (by kernel_rfl) (fun w' hC => by obtain ⟨q0, q1⟩ := (t11.below hC t11.lt).cells2; go_simp) ?_
  simp only [Act.put, List.setIfInBounds_toArray, List.set_cons_zero, List.set_cons_succ]
  refine qb_call (vI r) 14 #[vI p, vI q] (by kernel_rfl) (fun w' => by go_simp) (fun w' hC => (M1.out w').mono (fun e w'' h => ⟨h.1, hC.step h.2⟩)) ?_
  simp only [Act.put, List.setIfInBounds_toArray, List.set_cons_zero, List.set_cons_succ]
  refine qb_run (vI r) (by kernel_rfl) (fun w' hC => by obtain ⟨q0, q1⟩ := (t13.below hC t13.lt).cells2; go_simp) ?_
  simp only [Act.put, List.setIfInBounds_toArray, List.set_cons_zero, List.set_cons_succ]
  refine qb_run (.bool false) (by kernel_rfl) (fun w' hC => by go_simp) ?_
  simp only [Act.put, List.setIfInBounds_toArray, List.set_cons_zero, List.set_cons_succ]
  refine qb_run (.bool false) (by kernel_rfl) (fun w' hC => by go_simp) ?_
  simp only [Act.put, List.setIfInBounds_toArray, List.set_cons_zero, List.set_cons_succ]
  refine wpQuiet_nil (fun W11 hb => ?_)
  have t3 := t3.below hb t3.lt
  have t21 := t21.below hb t21.lt
  have t9 := t9.below hb t9.lt
  have t11 := t11.below hb t11.lt
  have t13 := t13.below hb t13.lt
  have bl := bl.trans (Below.mono hb bl.size)
  clear hb
  obtain ⟨c0_0, c0_1⟩ := t3.cells2
  go_wp2_with fail
  clear c0_0 c0_1
  refine (SQ.out W11).mono ?_
  rintro e W12 ⟨rfl, hb⟩
  have t3 := t3.below hb t3.lt
  have t21 := t21.below hb t21.lt
  have t9 := t9.below hb t9.lt
  have t11 := t11.below hb t11.lt
  have t13 := t13.below hb t13.lt
  have bl := bl.trans (Below.mono hb bl.size)
  clear hb
  obtain ⟨c0_0, c0_1⟩ := (t3.alloc (.cells #[.bool (sg s), .string (mg s)] 23)).cells2
  go_wp2_with fail
  clear c0_0 c0_1
  have t3 := (t3.alloc (.cells #[.bool (sg s), .string (mg s)] 23))
  have t21 := (t21.alloc (.cells #[.bool (sg s), .string (mg s)] 23))
  have t9 := (t9.alloc (.cells #[.bool (sg s), .string (mg s)] 23))
  have t11 := (t11.alloc (.cells #[.bool (sg s), .string (mg s)] 23))
  have t13 := (t13.alloc (.cells #[.bool (sg s), .string (mg s)] 23))
  have t15 := Ob.new (W12) 23 #[.bool (sg s), .string (mg s)]
  have bl := (bl.alloc (by have := bl.size; (try simp only [World.size_alloc] at *); omega) (.cells #[.bool (sg s), .string (mg s)] 23))
  try simp only [World.size_alloc] at t3 t21 t9 t11 t13 t15
  generalize hn13 : W12.heap.size = bk13 at t15 ⊢
  clear hn13
  generalize World.alloc W12 _ = W13 at t3 t21 t9 t11 t13 t15 bl ⊢
  refine (SG.out W13).mono ?_
  rintro e W14 ⟨rfl, hb⟩
  have t3 := t3.below hb t3.lt
  have t21 := t21.below hb t21.lt
  have t9 := t9.below hb t9.lt
  have t11 := t11.below hb t11.lt
  have t13 := t13.below hb t13.lt
  have t15 := t15.below hb t15.lt
  have bl := bl.trans (Below.mono hb bl.size)
  clear hb
  go_wp2_with fail
  have l3 := t3.lt
  have l21 := t21.lt
  have l9 := t9.lt
  have l11 := t11.lt
  have l13 := t13.lt
  have l15 := t15.lt
  have lw := bl.size
  refine region_bq 3 [(.cells #[.bool false, .string ⟨#[]⟩] 23)] (by kernel_rfl) (by kernel_rfl) ?_ ?_
  focus
    intro i o ob hi ho a
    have hlt : i = 3 := by
      have h1 : i < 5 := by have := (Array.getElem?_eq_some_iff.1 hi).1; simpa using this
      unfold alOf at ho; split at ho
      · have h2 : i - 3 < 1 := by have := (List.getElem?_eq_some_iff.1 ho).1; simpa using this
        omega
      · cases ho
    rcases hlt with rfl
    all_goals (simp at hi; simp [alOf] at ho; subst hi; subst ho; exact ⟨by kernel_rfl, fun w => by go_simp; first | done | rfl⟩)
  simp only [List.take_succ_cons, List.take_zero, List.drop_succ_cons, List.drop_zero, List.length_cons, List.length_nil, Nat.zero_add, Nat.reduceAdd]
  refine bq_run (vI s) (by kernel_rfl) (fun w' hC => by obtain ⟨q0, q1⟩ := (t15.below hC t15.lt).cells2; go_simp) ?_
  simp only [Act.put, List.setIfInBounds_toArray, List.set_cons_zero, List.set_cons_succ]
  refine bq_call (vI one) 12 #[.int .i64 1] (by kernel_rfl) (fun w' => by go_simp) (fun w' hC => (O1.out w').mono (fun e w'' h => ⟨h.1, h.2⟩)) ?_
  simp only [Act.put, List.setIfInBounds_toArray, List.set_cons_zero, List.set_cons_succ]
  refine bq_call (vI t) 13 #[vI s, vI one] (by kernel_rfl) (fun w' => by go_simp) (fun w' hC => (A1.out w').mono (fun e w'' h => ⟨h.1, h.2⟩)) ?_
  simp only [Act.put, List.setIfInBounds_toArray, List.set_cons_zero, List.set_cons_succ]
  refine bq_nil ?_
  intro bk15a hkbk15a W15 hI
  obtain ⟨hb, t17⟩ := hI.at1
  have t17 : Ob W15 bk15a 23 #[.bool false, .string ⟨#[]⟩] := t17
  have t3 := t3.below hb t3.lt
  have t21 := t21.below hb t21.lt
  have t9 := t9.below hb t9.lt
  have t11 := t11.below hb t11.lt
  have t13 := t13.below hb t13.lt
  have t15 := t15.below hb t15.lt
  have bl := bl.trans (Below.mono hb bl.size)
  clear hb hI
  try simp only [ptr, Act.put, List.setIfInBounds_toArray, List.set_cons_zero, List.set_cons_succ]
  have fr17 := t17.free
  obtain ⟨z17_0, z17_1⟩ := t17.cells2
  go_wp2_with fail
  clear fr17 z17_0 z17_1
  have t3 := t3.far2 (show w.heap.size ≠ bk15a by omega) (.bool (sg t)) (.string (mg t))
  have t21 := t21.far2 (show bk3 ≠ bk15a by omega) (.bool (sg t)) (.string (mg t))
  have t9 := t9.far2 (show bk6 ≠ bk15a by omega) (.bool (sg t)) (.string (mg t))
  have t11 := t11.far2 (show bk8 ≠ bk15a by omega) (.bool (sg t)) (.string (mg t))
  have t13 := t13.far2 (show bk10 ≠ bk15a by omega) (.bool (sg t)) (.string (mg t))
  have t15 := t15.far2 (show bk13 ≠ bk15a by omega) (.bool (sg t)) (.string (mg t))
  have t17 := t17.set2 (.bool (sg t)) (.string (mg t))
  have bl := (below_set (below_set bl (show w.heap.size ≤ bk15a by omega) 0 (.bool (sg t))) (show w.heap.size ≤ bk15a by omega) 1 (.string (mg t)))
  generalize World.setCell (World.setCell W15 _ _) _ _ = W16 at t3 t21 t9 t11 t13 t15 t17 bl ⊢
  clear l3 l21 l9 l11 l13 l15 lw hkbk15a
  refine region_qb (by kernel_rfl) (by kernel_rfl) ?_
  refine qb_mv (.int .i64 0) _ (.inl rfl) (by kernel_rfl) (by rfl) ?_
  simp only [Act.put, List.setIfInBounds_toArray, List.set_cons_zero, List.set_cons_succ]
  refine qb_run (.bool true) (by kernel_rfl) (fun w' hC => by go_simp) ?_
  simp only [Act.put, List.setIfInBounds_toArray, List.set_cons_zero, List.set_cons_succ]
  refine qb_mv (.bool true) _ (.inl rfl) (by kernel_rfl) (by rfl) ?_
  simp only [Act.put, List.setIfInBounds_toArray, List.set_cons_zero, List.set_cons_succ]
  refine qb_run (vI s) (by kernel_rfl) (fun w' hC => by obtain ⟨q0, q1⟩ := (t15.below hC t15.lt).cells2; go_simp) ?_
  simp only [Act.put, List.setIfInBounds_toArray, List.set_cons_zero, List.set_cons_succ]
  refine qb_call (.int .i64 n2) 19 #[vI s] (by kernel_rfl) (fun w' => by go_simp) (fun w' hC => (S2.out w').mono (fun e w'' h => ⟨h.1, hC.step h.2⟩)) ?_
  simp only [Act.put, List.setIfInBounds_toArray, List.set_cons_zero, List.set_cons_succ]
  refine qb_run (.bool true) (by kernel_rfl) (fun w' hC => by go_simp) ?_
  simp only [Act.put, List.setIfInBounds_toArray, List.set_cons_zero, List.set_cons_succ]
  refine qb_run (.bool true) (by kernel_rfl) (fun w' hC => by go_simp) ?_
  simp only [Act.put, List.setIfInBounds_toArray, List.set_cons_zero, List.set_cons_succ]
  refine qb_mv (.bool true) _ (.inl rfl) (by kernel_rfl) (by rfl) ?_
  simp only [Act.put, List.setIfInBounds_toArray, List.set_cons_zero, List.set_cons_succ]
  refine qb_run (vI s) (by kernel_rfl) (fun w' hC => by obtain ⟨q0, q1⟩ := (t15.below hC t15.lt).cells2; go_simp) ?_
  simp only [Act.put, List.setIfInBounds_toArray, List.set_cons_zero, List.set_cons_succ]
  refine qb_run (vI s) (by kernel_rfl) (fun w' hC => by obtain ⟨q0, q1⟩ := (t15.below hC t15.lt).cells2; go_simp) ?_
  simp only [Act.put, List.setIfInBounds_toArray, List.set_cons_zero, List.set_cons_succ]
  refine qb_call (vI ss) 14 #[vI s, vI s] (by kernel_rfl) (fun w' => by go_simp) (fun w' hC => (M2.out w').mono (fun e w'' h => ⟨h.1, hC.step h.2⟩)) ?_
  simp only [Act.put, List.setIfInBounds_toArray, List.set_cons_zero, List.set_cons_succ]
  refine qb_run (vI x) (by kernel_rfl) (fun w' hC => by obtain ⟨q0, q1⟩ := (t3.below hC t3.lt).cells2; go_simp) ?_
  simp only [Act.put, List.setIfInBounds_toArray, List.set_cons_zero, List.set_cons_succ]
  refine qb_call (.int .i64 n3) 20 #[vI ss, vI x] (by kernel_rfl) (fun w' => by go_simp) (fun w' hC => (C1.out w').mono (fun e w'' h => ⟨h.1, hC.step h.2⟩)) ?_
  simp only [Act.put, List.setIfInBounds_toArray, List.set_cons_zero, List.set_cons_succ]
  refine qb_run (.bool true) (by kernel_rfl) (fun w' hC => by go_simp) ?_
  simp only [Act.put, List.setIfInBounds_toArray, List.set_cons_zero, List.set_cons_succ]
  refine qb_run (.bool true) (by kernel_rfl) (fun w' hC => by go_simp) ?_
  simp only [Act.put, List.setIfInBounds_toArray, List.set_cons_zero, List.set_cons_succ]
  refine qb_mv (.bool true) _ (.inl rfl) (by kernel_rfl) (by rfl) ?_
  simp only [Act.put, List.setIfInBounds_toArray, List.set_cons_zero, List.set_cons_succ]
  refine qb_run (vI t) (by kernel_rfl) (fun w' hC => by obtain ⟨q0, q1⟩ := (t17.below hC t17.lt).cells2; go_simp) ?_
  simp only [Act.put, List.setIfInBounds_toArray, List.set_cons_zero, List.set_cons_succ]
  refine qb_run (vI t) (by kernel_rfl) (fun w' hC => by obtain ⟨q0, q1⟩ := (t17.below hC t17.lt).cells2; go_simp) ?_
  simp only [Act.put, List.setIfInBounds_toArray, List.set_cons_zero, List.set_cons_succ]
  refine qb_call (vI tt) 14 #[vI t, vI t] (by kernel_rfl) (fun w' => by go_simp) (fun w' hC => (M3.out w').mono (fun e w'' h => ⟨h.1, hC.step h.2⟩)) ?_
  simp only [Act.put, List.setIfInBounds_toArray, List.set_cons_zero, List.set_cons_succ]
  refine qb_run (vI x) (by kernel_rfl) (fun w' hC => by obtain ⟨q0, q1⟩ := (t3.below hC t3.lt).cells2; go_simp) ?_
  simp only [Act.put, List.setIfInBounds_toArray, List.set_cons_zero, List.set_cons_succ]
  refine qb_call (.int .i64 n4) 20 #[vI tt, vI x] (by kernel_rfl) (fun w' => by go_simp) (fun w' hC => (C2.out w').mono (fun e w'' h => ⟨h.1, hC.step h.2⟩)) ?_
  simp only [Act.put, List.setIfInBounds_toArray, List.set_cons_zero, List.set_cons_succ]
  refine qb_run (.bool true) (by kernel_rfl) (fun w' hC => by go_simp) ?_
  simp only [Act.put, List.setIfInBounds_toArray, List.set_cons_zero, List.set_cons_succ]
  refine qb_run (.bool true) (by kernel_rfl) (fun w' hC => by go_simp) ?_
  simp only [Act.put, List.setIfInBounds_toArray, List.set_cons_zero, List.set_cons_succ]
  refine qb_mv (.bool true) _ (.inr rfl) (by kernel_rfl) (by rfl) ?_
  simp only [Act.put, List.setIfInBounds_toArray, List.set_cons_zero, List.set_cons_succ]
  refine wpQuiet_nil (fun W17 hb => ?_)
  have t3 := t3.below hb t3.lt
  have t21 := t21.below hb t21.lt
  have t9 := t9.below hb t9.lt
  have t11 := t11.below hb t11.lt
  have t13 := t13.below hb t13.lt
  have t15 := t15.below hb t15.lt
  have t17 := t17.below hb t17.lt
  have bl := bl.trans (Below.mono hb bl.size)
  clear hb
  go_wp2_with fail
  go_ret
  exact ⟨rfl, bl⟩

set_option maxHeartbeats 1000000 in
set_option maxRecDepth 100000 in
theorem Roots_no (n : Bool) (s : ByteArray) (j k : Nat) (hj : j < 256) (hk : k < 256) (w : World)
    (HAW : ∀ W, Below w.heap.size w W → Calls Tryd.prog 10 #[] W (RetB true W))
    (HRI : ∀ (A : Option Addr) c W, RdI W A [(n, s)] → Calls Tryd.prog 11 #[.slice A 1 c] W (RetB false W)) :
    Calls Tryd.prog 4 #[.agg #[.bool n, .string s], .int .u8 j, .int .u8 k] w (RetB true w) := by
  replace HAW := Lib.hid HAW
  replace HRI := Lib.hid HRI
  go_enter Tryd.func4, Tryd.ntmps4
  go_wp2_with fail
  have t3 := Ob.new (w) 23 #[.bool n, .string s]
  have bl := ((Below.refl w.heap.size w).alloc (Nat.le_refl _) (.cells #[.bool n, .string s] 23))
  try simp only [World.size_alloc] at t3
  generalize World.alloc w _ = W1 at t3 bl ⊢
  refine (HAW.out W1 bl).mono ?_
  rintro e W2 ⟨rfl, hb⟩
  have t3 := t3.below hb t3.lt
  have bl := bl.trans (Below.mono hb bl.size)
  clear hb
  obtain ⟨c0_0, c0_1⟩ := t3.cells2
  go_wp2_with fail
  clear c0_0 c0_1
  have t3 := (t3.alloc (.cells #[.bool n, .string s] 23))
  have t21 := Ob.new (W2) 23 #[.bool n, .string s]
  have bl := (bl.alloc (by have := bl.size; (try simp only [World.size_alloc] at *); omega) (.cells #[.bool n, .string s] 23))
  try simp only [World.size_alloc] at t3 t21
  generalize hn3 : W2.heap.size = bk3 at t21 ⊢
  clear hn3
  generalize World.alloc W2 _ = W3 at t3 t21 bl ⊢
  refine (HRI.out _ 1 W3 (rdi_one t21)).mono ?_
  rintro e W4 ⟨rfl, hb⟩
  have t3 := t3.below hb t3.lt
  have t21 := t21.below hb t21.lt
  have bl := bl.trans (Below.mono hb bl.size)
  clear hb
  go_wp2_with fail
  go_ret
  exact ⟨rfl, bl⟩

theorem sqrt_exists (n : Nat) : ∃ r, r * r ≤ n ∧ n < (r + 1) * (r + 1) := by
  induction n with
  | zero => exact ⟨0, by omega, by omega⟩
  | succ n ih =>
    obtain ⟨r, h1, h2⟩ := ih
    by_cases h : n + 1 < (r + 1) * (r + 1)
    · exact ⟨r, by omega, h⟩
    · refine ⟨r + 1, by omega, ?_⟩
      have : (r + 1 + 1) * (r + 1 + 1) = (r + 1) * (r + 1) + 2 * (r + 1) + 1 := by
        rw [Nat.add_mul (r + 1) 1, Nat.mul_add (r + 1) (r + 1) 1]; omega
      omega
theorem Sqrt_at (x : Int) (r : Nat) (w : World) (hx : Bd 100000000 x) (h0 : 0 ≤ x) (h1 : r * r ≤ x.natAbs) (h2 : x.natAbs < (r + 1) * (r + 1)) : Calls Tryd.prog 18 #[vI x] w (RetIE r 0 w) := by
  by_cases hz : x = 0
  · subst hz
    have hr : r = 0 := by
      rcases Nat.eq_zero_or_pos r with h | h
      · exact h
      · have := Nat.mul_le_mul h h
        simp at h1; omega
    subst hr
    exact Sqrt_zero w
  · obtain ⟨n, rfl⟩ : ∃ n : Nat, x = n := ⟨x.natAbs, by omega⟩
    refine (Sqrt_any n w hx (by omega)).mono ?_
    rintro e w' ⟨q, h, h3, h4⟩
    simp only [Int.natAbs_natCast] at h1 h2
    rwa [sqrt_uniq h1 h2 h3 h4]

theorem Roots_all (n : Bool) (s : ByteArray) (j k : Nat) (hj : j < 256) (hk : k < 256) (w : World) (ht : HasTab w) : Calls Tryd.prog 4 #[.agg #[.bool n, .string s], .int .u8 j, .int .u8 k] w (RetB true w) := by
  have HAW : ∀ W, Below w.heap.size w W → Calls Tryd.prog 10 #[] W (RetB true W) := fun W h => awake_any W (ht.below h)
  have HRI := fun (A : Option Addr) c W h => right_any A c [(n, s)] W h (by simp)
  cases hr : (([(n, s)].all fun p => vld p.1 p.2) && [(n, s)].all fun p => decide (p.2.size ≤ 60)) with
  | false =>
    rw [hr] at HRI
    exact Roots_no n s j k hj hk w HAW HRI
  | true =>
    rw [hr] at HRI
    simp only [List.all_cons, List.all_nil, Bool.and_true, Bool.and_eq_true, decide_eq_true_eq] at hr
    obtain ⟨v1, f1⟩ := hr
    obtain ⟨e1, e2⟩ := vld_form v1
    generalize ival n s = x at *
    subst e1 e2
    have hx : Bd 60 x := (Bd.of_size x).mono f1
    have hp : ∀ i n : Nat, i ≤ n → 1 ≤ n → Bd (60 * n) (x ^ i) := fun i n hi hn => hx.pow (by omega) i n hi hn
    have ej : ((j : Int) % 6) = ((j % 6 : Nat) : Int) := rfl
    have ek : ((k : Int) % 6) = ((k % 6 : Nat) : Int) := rfl
    have hj6 : j % 6 ≤ 5 := by omega
    have hk6 : k % 6 ≤ 5 := by omega
    have P1 : ∀ W, Calls Tryd.prog 17 #[vI x, .int .i64 ((j : Int) % 6)] W (RetIE (x ^ (j % 6)) 0 W) := fun W => by rw [ej]; exact Pow_any x (j % 6) W (hx.mono (by omega)) (by omega)
    have P2 : ∀ W, Calls Tryd.prog 17 #[vI x, .int .i64 ((k : Int) % 6)] W (RetIE (x ^ (k % 6)) 0 W) := fun W => by rw [ek]; exact Pow_any x (k % 6) W (hx.mono (by omega)) (by omega)
    have P3 : ∀ W, Calls Tryd.prog 17 #[vI x, .int .i64 ((j : Int) % 6 + (k : Int) % 6)] W (RetIE (x ^ (j % 6 + k % 6)) 0 W) := fun W => by
      rw [ej, ek, ← Int.natCast_add]; exact Pow_any x (j % 6 + k % 6) W (hx.mono (by omega)) (by omega)
    have M1 : ∀ W, Calls Tryd.prog 14 #[vI (x ^ (j % 6)), vI (x ^ (k % 6))] W (RetI (x ^ (j % 6 + k % 6)) W) := fun W => by
      rw [Int.pow_add]; exact Mul_any _ _ W ((hp _ 5 hj6 (by omega)).mono (by omega)) ((hp _ 5 hk6 (by omega)).mono (by omega))
    by_cases hneg : x < 0
    · exact Roots_neg x _ _ _ 0 j k hj hk w HAW HRI P1 P2 P3 M1 (fun W => Sqrt_neg x W hneg) (fun W => by have := Sign_any x W; rwa [Int.sign_eq_neg_one_of_neg hneg] at this)
    · obtain ⟨r, h1, h2⟩ := sqrt_exists x.natAbs
      have hr1 : ((r : Int) * r) ≤ x := by
        have : (r : Int) * r ≤ (x.natAbs : Int) := by exact_mod_cast h1
        omega
      have hr2 : x < ((r : Int) + 1) * ((r : Int) + 1) := by
        have : (x.natAbs : Int) < ((r : Int) + 1) * ((r : Int) + 1) := by exact_mod_cast h2
        omega
      have hrb : Bd 60 (r : Int) := hx.le (by
        have : r ≤ r * r := Nat.le_mul_self r
        simp only [Int.natAbs_natCast]; omega)
      have hr1b : Bd 61 ((r : Int) + 1) := hrb.add (Bd.one (by omega))
      exact Roots_pos x _ _ _ r 1 (r + 1) (r * r) (((r : Int) + 1) * ((r : Int) + 1)) j k hj hk w HAW HRI P1 P2 P3 M1 (fun W => Sqrt_at x r W (hx.mono (by omega)) (by omega) h1 h2)
        x.sign (r : Int).sign ((r : Int) * r - x).sign (((r : Int) + 1) * ((r : Int) + 1) - x).sign (Int.sign_nonneg_iff.2 (by omega)) (Int.sign_nonneg_iff.2 (by omega)) (Int.sign_nonpos_iff.2 (by omega)) (Int.sign_pos_iff.2 (by omega))
        (Sign_any x) (fun W => Of_any 1 W (by omega) (by omega)) (fun W => Add_any _ _ W (hrb.mono (by omega)) (Bd.one (by omega))) (Sign_any _)
        (fun W => Mul_any _ _ W (hrb.mono (by omega)) (hrb.mono (by omega))) (fun W => Cmp_any _ _ W ((hrb.mul hrb).mono (by omega)) (hx.mono (by omega)))
        (fun W => Mul_any _ _ W (hr1b.mono (by omega)) (hr1b.mono (by omega))) (fun W => Cmp_any _ _ W ((hr1b.mul hr1b).mono (by omega)) (hx.mono (by omega)))
end Go.Proofs.YtboolbcckfldaaaDoor
