import Derived.Test.YtboolbcckfldaaaDoorLawRoots
import Derived.Test.YtboolbcckfldaaaDoorWalkW
namespace Go.Proofs.YtboolbcckfldaaaDoor
open Go.RowKit
set_option linter.unusedVariables false
set_option linter.unusedSimpArgs false

theorem Int64_in (z : Int) (w : World) (h0 : -9223372036854775808 ≤ z) (h1 : z < 9223372036854775808) : Calls Tryd.prog 23 #[vI z] w (RetNB z true w) := by
  have h := Int64_any z w
  have e : fits64 z = true := by unfold fits64; rw [decide_eq_true_iff]; exact ⟨h0, h1⟩
  rw [e] at h
  exact h

set_option maxHeartbeats 4000000 in
set_option maxRecDepth 100000 in
theorem Words_lt_zero (a b n m x y s p u v q t : Int) (w : World)
    (HAW : ∀ W, Below w.heap.size w W → Calls Tryd.prog 10 #[] W (RetB true W))
    (hn0 : a.tdiv 2 = n) (hm0 : b.tdiv 2 = m)
    (n1 : -1073741824 ≤ n) (n2 : n ≤ 1073741824) (m1 : -1073741824 ≤ m) (m2 : m ≤ 1073741824)
    (ha1 : -2147483648 ≤ a) (ha2 : a ≤ 2147483647) (hb1 : -2147483648 ≤ b) (hb2 : b ≤ 2147483647)
    (p1 : -1152921504606846976 ≤ n * m) (p2 : n * m ≤ 1152921504606846976)
    (hc : n < m)
    (O1 : ∀ W, Calls Tryd.prog 12 #[.int .i64 n] W (RetI x W))
    (O2 : ∀ W, Calls Tryd.prog 12 #[.int .i64 m] W (RetI y W))
    (A1 : ∀ W, Calls Tryd.prog 13 #[vI x, vI y] W (RetI s W))
    (J1 : ∀ W, Calls Tryd.prog 23 #[vI s] W (RetNB (n + m) true W))
    (M1 : ∀ W, Calls Tryd.prog 14 #[vI x, vI y] W (RetI p W))
    (J2 : ∀ W, Calls Tryd.prog 23 #[vI p] W (RetNB (n * m) true W))
    (C1 : ∀ W, Calls Tryd.prog 20 #[vI x, vI y] W (RetN (-1) W))
    (hz : (m == 0) = true) :
    Calls Tryd.prog 7 #[.int .i32 a, .int .i32 b] w (RetB true w) := by
  replace HAW := Lib.hid HAW
  replace O1 := Lib.hid O1
  replace O2 := Lib.hid O2
  replace A1 := Lib.hid A1
  replace J1 := Lib.hid J1
  replace M1 := Lib.hid M1
  replace J2 := Lib.hid J2
  replace C1 := Lib.hid C1
  have HN0 := Lib.hid hn0
  have HM0 := Lib.hid hm0
  clear hn0 hm0
  go_enter Tryd.func7, Tryd.ntmps7
  go_wp2_with fail
  refine (HAW.out w (Below.refl _ _)).mono ?_
  rintro e W1 ⟨rfl, hb⟩
  have bl : Below w.heap.size w _ := hb
  clear hb
  go_wp2_with fail
  rw [HN0.out]
  rw [HM0.out]
  clear HN0 HM0
  refine (O1.out W1).mono ?_
  rintro e W2 ⟨rfl, hb⟩
  have bl := bl.trans (Below.mono hb bl.size)
  clear hb
  go_wp2_with fail
  refine (O2.out W2).mono ?_
  rintro e W3 ⟨rfl, hb⟩
  have bl := bl.trans (Below.mono hb bl.size)
  clear hb
  go_wp2_with fail
  have t7 := (Ob.new (W3) 23 #[.bool (sg x), .string (mg x)]).alloc (.cells #[.bool (sg y), .string (mg y)] 23)
  have t8 := Ob.new ((W3.alloc (.cells #[.bool (sg x), .string (mg x)] 23))) 23 #[.bool (sg y), .string (mg y)]
  have bl := ((bl.alloc (by have := bl.size; (try simp only [World.size_alloc] at *); omega) (.cells #[.bool (sg x), .string (mg x)] 23)).alloc (by have := bl.size; (try simp only [World.size_alloc] at *); omega) (.cells #[.bool (sg y), .string (mg y)] 23))
  try simp only [World.size_alloc] at t7 t8
  generalize hn4 : W3.heap.size = bk4 at t7 t8 ⊢
  clear hn4
  generalize World.alloc (World.alloc W3 _) _ = W4 at t7 t8 bl ⊢
  refine (A1.out W4).mono ?_
  rintro e W5 ⟨rfl, hb⟩
  have t7 := t7.below hb t7.lt
  have t8 := t8.below hb t8.lt
  have bl := bl.trans (Below.mono hb bl.size)
  clear hb
  go_wp2_with fail
  refine (J1.out W5).mono ?_
  rintro e W6 ⟨rfl, hb⟩
  have t7 := t7.below hb t7.lt
  have t8 := t8.below hb t8.lt
  have bl := bl.trans (Below.mono hb bl.size)
  clear hb
  obtain ⟨c0_0, c0_1⟩ := t7.cells2
  obtain ⟨c1_0, c1_1⟩ := t8.cells2
  go_wp2_with fail
  clear c0_0 c0_1 c1_0 c1_1
  refine (M1.out W6).mono ?_
  rintro e W7 ⟨rfl, hb⟩
  have t7 := t7.below hb t7.lt
  have t8 := t8.below hb t8.lt
  have bl := bl.trans (Below.mono hb bl.size)
  clear hb
  go_wp2_with fail
  refine (J2.out W7).mono ?_
  rintro e W8 ⟨rfl, hb⟩
  have t7 := t7.below hb t7.lt
  have t8 := t8.below hb t8.lt
  have bl := bl.trans (Below.mono hb bl.size)
  clear hb
  obtain ⟨c0_0, c0_1⟩ := t7.cells2
  obtain ⟨c1_0, c1_1⟩ := t8.cells2
  go_wp2_with fail
  clear c0_0 c0_1 c1_0 c1_1
  refine (C1.out W8).mono ?_
  rintro e W9 ⟨rfl, hb⟩
  have t7 := t7.below hb t7.lt
  have t8 := t8.below hb t8.lt
  have bl := bl.trans (Below.mono hb bl.size)
  clear hb
  go_wp2_with fail
  go_ret
  exact ⟨rfl, bl⟩

set_option maxHeartbeats 4000000 in
set_option maxRecDepth 100000 in
theorem Words_lt_corr (a b n m x y s p u v q t : Int) (w : World)
    (HAW : ∀ W, Below w.heap.size w W → Calls Tryd.prog 10 #[] W (RetB true W))
    (hn0 : a.tdiv 2 = n) (hm0 : b.tdiv 2 = m)
    (n1 : -1073741824 ≤ n) (n2 : n ≤ 1073741824) (m1 : -1073741824 ≤ m) (m2 : m ≤ 1073741824)
    (ha1 : -2147483648 ≤ a) (ha2 : a ≤ 2147483647) (hb1 : -2147483648 ≤ b) (hb2 : b ≤ 2147483647)
    (p1 : -1152921504606846976 ≤ n * m) (p2 : n * m ≤ 1152921504606846976)
    (hc : n < m)
    (O1 : ∀ W, Calls Tryd.prog 12 #[.int .i64 n] W (RetI x W))
    (O2 : ∀ W, Calls Tryd.prog 12 #[.int .i64 m] W (RetI y W))
    (A1 : ∀ W, Calls Tryd.prog 13 #[vI x, vI y] W (RetI s W))
    (J1 : ∀ W, Calls Tryd.prog 23 #[vI s] W (RetNB (n + m) true W))
    (M1 : ∀ W, Calls Tryd.prog 14 #[vI x, vI y] W (RetI p W))
    (J2 : ∀ W, Calls Tryd.prog 23 #[vI p] W (RetNB (n * m) true W))
    (C1 : ∀ W, Calls Tryd.prog 20 #[vI x, vI y] W (RetN (-1) W))
    (hz : (m == 0) = false) (hz' : ¬ m = 0)
    (HQ : wrap64 (n.tdiv m) = q) (HQ1 : wrap64 (q - 1) = q - 1)
    (hr : (n.tmod m != 0) = true) (hsg : (!(decide (n < 0) == decide (m < 0))) = true)
    (HP : IntKind.i64.wrap ((q - 1) * m) = t) (HT : IntKind.i64.wrap (n - t) = n - t)
    (D1 : ∀ W, Calls Tryd.prog 28 #[vI x, vI y] W (RetIIE u v 0 W))
    (O3 : ∀ W, Calls Tryd.prog 12 #[.int .i64 (q - 1)] W (RetI u W))
    (O4 : ∀ W, Calls Tryd.prog 12 #[.int .i64 (n - t)] W (RetI v W)) :
    Calls Tryd.prog 7 #[.int .i32 a, .int .i32 b] w (RetB true w) := by
  replace HAW := Lib.hid HAW
  replace O1 := Lib.hid O1
  replace O2 := Lib.hid O2
  replace A1 := Lib.hid A1
  replace J1 := Lib.hid J1
  replace M1 := Lib.hid M1
  replace J2 := Lib.hid J2
  replace C1 := Lib.hid C1
  replace D1 := Lib.hid D1
  replace O3 := Lib.hid O3
  replace O4 := Lib.hid O4
  replace HP := Lib.hid HP
  replace HT := Lib.hid HT
  replace HQ := Lib.hid HQ
  replace HQ1 := Lib.hid HQ1
  have HN0 := Lib.hid hn0
  have HM0 := Lib.hid hm0
  clear hn0 hm0
  go_enter Tryd.func7, Tryd.ntmps7
  go_wp2_with fail
  refine (HAW.out w (Below.refl _ _)).mono ?_
  rintro e W1 ⟨rfl, hb⟩
  have bl : Below w.heap.size w _ := hb
  clear hb
  go_wp2_with fail
  rw [HN0.out]
  rw [HM0.out]
  clear HN0 HM0
  refine (O1.out W1).mono ?_
  rintro e W2 ⟨rfl, hb⟩
  have bl := bl.trans (Below.mono hb bl.size)
  clear hb
  go_wp2_with fail
  refine (O2.out W2).mono ?_
  rintro e W3 ⟨rfl, hb⟩
  have bl := bl.trans (Below.mono hb bl.size)
  clear hb
  go_wp2_with fail
  have t7 := (Ob.new (W3) 23 #[.bool (sg x), .string (mg x)]).alloc (.cells #[.bool (sg y), .string (mg y)] 23)
  have t8 := Ob.new ((W3.alloc (.cells #[.bool (sg x), .string (mg x)] 23))) 23 #[.bool (sg y), .string (mg y)]
  have bl := ((bl.alloc (by have := bl.size; (try simp only [World.size_alloc] at *); omega) (.cells #[.bool (sg x), .string (mg x)] 23)).alloc (by have := bl.size; (try simp only [World.size_alloc] at *); omega) (.cells #[.bool (sg y), .string (mg y)] 23))
  try simp only [World.size_alloc] at t7 t8
  generalize hn4 : W3.heap.size = bk4 at t7 t8 ⊢
  clear hn4
  generalize World.alloc (World.alloc W3 _) _ = W4 at t7 t8 bl ⊢
  refine (A1.out W4).mono ?_
  rintro e W5 ⟨rfl, hb⟩
  have t7 := t7.below hb t7.lt
  have t8 := t8.below hb t8.lt
  have bl := bl.trans (Below.mono hb bl.size)
  clear hb
  go_wp2_with fail
  refine (J1.out W5).mono ?_
  rintro e W6 ⟨rfl, hb⟩
  have t7 := t7.below hb t7.lt
  have t8 := t8.below hb t8.lt
  have bl := bl.trans (Below.mono hb bl.size)
  clear hb
  obtain ⟨c0_0, c0_1⟩ := t7.cells2
  obtain ⟨c1_0, c1_1⟩ := t8.cells2
  go_wp2_with fail
  clear c0_0 c0_1 c1_0 c1_1
  refine (M1.out W6).mono ?_
  rintro e W7 ⟨rfl, hb⟩
  have t7 := t7.below hb t7.lt
  have t8 := t8.below hb t8.lt
  have bl := bl.trans (Below.mono hb bl.size)
  clear hb
  go_wp2_with fail
  refine (J2.out W7).mono ?_
  rintro e W8 ⟨rfl, hb⟩
  have t7 := t7.below hb t7.lt
  have t8 := t8.below hb t8.lt
  have bl := bl.trans (Below.mono hb bl.size)
  clear hb
  obtain ⟨c0_0, c0_1⟩ := t7.cells2
  obtain ⟨c1_0, c1_1⟩ := t8.cells2
  go_wp2_with fail
  clear c0_0 c0_1 c1_0 c1_1
  refine (C1.out W8).mono ?_
  rintro e W9 ⟨rfl, hb⟩
  have t7 := t7.below hb t7.lt
  have t8 := t8.below hb t8.lt
  have bl := bl.trans (Below.mono hb bl.size)
  clear hb
  obtain ⟨c0_0, c0_1⟩ := t7.cells2
  obtain ⟨c1_0, c1_1⟩ := t8.cells2
  go_wp2_with fail
  clear c0_0 c0_1 c1_0 c1_1
  rw [HQ.out]
  rw [HQ1.out]
  refine (D1.out W9).mono ?_
  rintro e W10 ⟨rfl, hb⟩
  have t7 := t7.below hb t7.lt
  have t8 := t8.below hb t8.lt
  have bl := bl.trans (Below.mono hb bl.size)
  clear hb
  go_wp2_with fail
  have t7 := ((t7.alloc (.cells #[.bool (sg u), .string (mg u)] 23)).alloc (.cells #[.bool (sg v), .string (mg v)] 23))
  have t8 := ((t8.alloc (.cells #[.bool (sg u), .string (mg u)] 23)).alloc (.cells #[.bool (sg v), .string (mg v)] 23))
  have t15 := (Ob.new (W10) 23 #[.bool (sg u), .string (mg u)]).alloc (.cells #[.bool (sg v), .string (mg v)] 23)
  have t16 := Ob.new ((W10.alloc (.cells #[.bool (sg u), .string (mg u)] 23))) 23 #[.bool (sg v), .string (mg v)]
  have bl := ((bl.alloc (by have := bl.size; (try simp only [World.size_alloc] at *); omega) (.cells #[.bool (sg u), .string (mg u)] 23)).alloc (by have := bl.size; (try simp only [World.size_alloc] at *); omega) (.cells #[.bool (sg v), .string (mg v)] 23))
  try simp only [World.size_alloc] at t7 t8 t15 t16
  generalize hn11 : W10.heap.size = bk11 at t15 t16 ⊢
  clear hn11
  generalize World.alloc (World.alloc W10 _) _ = W11 at t7 t8 t15 t16 bl ⊢
  refine region_qb (by kernel_rfl) (by kernel_rfl) ?_
  refine qb_mv (.int .i64 0) _ (.inl rfl) (by kernel_rfl) (by rfl) ?_
  simp only [Act.put, List.setIfInBounds_toArray, List.set_cons_zero, List.set_cons_succ]
  refine qb_run (.bool true) (by kernel_rfl) (fun w' hC => by go_simp) ?_
  simp only [Act.put, List.setIfInBounds_toArray, List.set_cons_zero, List.set_cons_succ]
  refine qb_mv (.bool true) _ (.inl rfl) (by kernel_rfl) (by rfl) ?_
  simp only [Act.put, List.setIfInBounds_toArray, List.set_cons_zero, List.set_cons_succ]
  refine qb_run (vI u) (by kernel_rfl) (fun w' hC => by obtain ⟨q0, q1⟩ := (t15.below hC t15.lt).cells2; go_simp) ?_
  simp only [Act.put, List.setIfInBounds_toArray, List.set_cons_zero, List.set_cons_succ]
  refine qb_mv (.int .i64 (q - 1)) _ (.inl rfl) (by kernel_rfl) (by rfl) ?_
  simp only [Act.put, List.setIfInBounds_toArray, List.set_cons_zero, List.set_cons_succ]
  refine qb_call (vI u) 12 #[.int .i64 (q - 1)] (by kernel_rfl) (fun w' => by go_simp) (fun w' hC => (O3.out w').mono (fun e w'' h => ⟨h.1, hC.step h.2⟩)) ?_
  simp only [Act.put, List.setIfInBounds_toArray, List.set_cons_zero, List.set_cons_succ]
  refine qb_run (.bool true) (by kernel_rfl) (fun w' hC => by go_simp) ?_
  simp only [Act.put, List.setIfInBounds_toArray, List.set_cons_zero, List.set_cons_succ]
  refine qb_run (.bool true) (by kernel_rfl) (fun w' hC => by go_simp) ?_
  simp only [Act.put, List.setIfInBounds_toArray, List.set_cons_zero, List.set_cons_succ]
  refine qb_mv (.bool true) _ (.inl rfl) (by kernel_rfl) (by rfl) ?_
  simp only [Act.put, List.setIfInBounds_toArray, List.set_cons_zero, List.set_cons_succ]
  refine qb_run (vI v) (by kernel_rfl) (fun w' hC => by obtain ⟨q0, q1⟩ := (t16.below hC t16.lt).cells2; go_simp) ?_
  simp only [Act.put, List.setIfInBounds_toArray, List.set_cons_zero, List.set_cons_succ]
  refine qb_mv (.int .i64 n) _ (.inl rfl) (by kernel_rfl) (by rfl) ?_
  simp only [Act.put, List.setIfInBounds_toArray, List.set_cons_zero, List.set_cons_succ]
  refine qb_mv (.int .i64 (q - 1)) _ (.inl rfl) (by kernel_rfl) (by rfl) ?_
  simp only [Act.put, List.setIfInBounds_toArray, List.set_cons_zero, List.set_cons_succ]
  refine qb_mv (.int .i64 m) _ (.inl rfl) (by kernel_rfl) (by rfl) ?_
  simp only [Act.put, List.setIfInBounds_toArray, List.set_cons_zero, List.set_cons_succ]
  refine qb_run (.int .i64 t) (by kernel_rfl) (fun w' hC => by have h1 := HP.out; go_simp) ?_
  simp only [Act.put, List.setIfInBounds_toArray, List.set_cons_zero, List.set_cons_succ]
  refine qb_run (.int .i64 (n - t)) (by kernel_rfl) (fun w' hC => by have h1 := HT.out; go_simp) ?_
  simp only [Act.put, List.setIfInBounds_toArray, List.set_cons_zero, List.set_cons_succ]
  refine qb_call (vI v) 12 #[.int .i64 (n - t)] (by kernel_rfl) (fun w' => by go_simp) (fun w' hC => (O4.out w').mono (fun e w'' h => ⟨h.1, hC.step h.2⟩)) ?_
  simp only [Act.put, List.setIfInBounds_toArray, List.set_cons_zero, List.set_cons_succ]
  refine qb_run (.bool true) (by kernel_rfl) (fun w' hC => by go_simp) ?_
  simp only [Act.put, List.setIfInBounds_toArray, List.set_cons_zero, List.set_cons_succ]
  refine qb_run (.bool true) (by kernel_rfl) (fun w' hC => by go_simp) ?_
  simp only [Act.put, List.setIfInBounds_toArray, List.set_cons_zero, List.set_cons_succ]
  refine qb_mv (.bool true) _ (.inr rfl) (by kernel_rfl) (by rfl) ?_
  simp only [Act.put, List.setIfInBounds_toArray, List.set_cons_zero, List.set_cons_succ]
  refine wpQuiet_nil (fun W12 hb => ?_)
  have t7 := t7.below hb t7.lt
  have t8 := t8.below hb t8.lt
  have t15 := t15.below hb t15.lt
  have t16 := t16.below hb t16.lt
  have bl := bl.trans (Below.mono hb bl.size)
  clear hb
  go_wp2_with fail
  go_ret
  exact ⟨rfl, bl⟩

set_option maxHeartbeats 4000000 in
set_option maxRecDepth 100000 in
theorem Words_lt_nor (a b n m x y s p u v q t : Int) (w : World)
    (HAW : ∀ W, Below w.heap.size w W → Calls Tryd.prog 10 #[] W (RetB true W))
    (hn0 : a.tdiv 2 = n) (hm0 : b.tdiv 2 = m)
    (n1 : -1073741824 ≤ n) (n2 : n ≤ 1073741824) (m1 : -1073741824 ≤ m) (m2 : m ≤ 1073741824)
    (ha1 : -2147483648 ≤ a) (ha2 : a ≤ 2147483647) (hb1 : -2147483648 ≤ b) (hb2 : b ≤ 2147483647)
    (p1 : -1152921504606846976 ≤ n * m) (p2 : n * m ≤ 1152921504606846976)
    (hc : n < m)
    (O1 : ∀ W, Calls Tryd.prog 12 #[.int .i64 n] W (RetI x W))
    (O2 : ∀ W, Calls Tryd.prog 12 #[.int .i64 m] W (RetI y W))
    (A1 : ∀ W, Calls Tryd.prog 13 #[vI x, vI y] W (RetI s W))
    (J1 : ∀ W, Calls Tryd.prog 23 #[vI s] W (RetNB (n + m) true W))
    (M1 : ∀ W, Calls Tryd.prog 14 #[vI x, vI y] W (RetI p W))
    (J2 : ∀ W, Calls Tryd.prog 23 #[vI p] W (RetNB (n * m) true W))
    (C1 : ∀ W, Calls Tryd.prog 20 #[vI x, vI y] W (RetN (-1) W))
    (hz : (m == 0) = false) (hz' : ¬ m = 0)
    (HQ : wrap64 (n.tdiv m) = q) (HQ1 : wrap64 (q - 1) = q - 1)
    (hr : (n.tmod m != 0) = false)
    (HP : IntKind.i64.wrap ((q) * m) = t) (HT : IntKind.i64.wrap (n - t) = n - t)
    (D1 : ∀ W, Calls Tryd.prog 28 #[vI x, vI y] W (RetIIE u v 0 W))
    (O3 : ∀ W, Calls Tryd.prog 12 #[.int .i64 (q)] W (RetI u W))
    (O4 : ∀ W, Calls Tryd.prog 12 #[.int .i64 (n - t)] W (RetI v W)) :
    Calls Tryd.prog 7 #[.int .i32 a, .int .i32 b] w (RetB true w) := by
  replace HAW := Lib.hid HAW
  replace O1 := Lib.hid O1
  replace O2 := Lib.hid O2
  replace A1 := Lib.hid A1
  replace J1 := Lib.hid J1
  replace M1 := Lib.hid M1
  replace J2 := Lib.hid J2
  replace C1 := Lib.hid C1
  replace D1 := Lib.hid D1
  replace O3 := Lib.hid O3
  replace O4 := Lib.hid O4
  replace HP := Lib.hid HP
  replace HT := Lib.hid HT
  replace HQ := Lib.hid HQ
  replace HQ1 := Lib.hid HQ1
  have HN0 := Lib.hid hn0
  have HM0 := Lib.hid hm0
  clear hn0 hm0
  go_enter Tryd.func7, Tryd.ntmps7
  go_wp2_with fail
  refine (HAW.out w (Below.refl _ _)).mono ?_
  rintro e W1 ⟨rfl, hb⟩
  have bl : Below w.heap.size w _ := hb
  clear hb
  go_wp2_with fail
  rw [HN0.out]
  rw [HM0.out]
  clear HN0 HM0
  refine (O1.out W1).mono ?_
  rintro e W2 ⟨rfl, hb⟩
  have bl := bl.trans (Below.mono hb bl.size)
  clear hb
  go_wp2_with fail
  refine (O2.out W2).mono ?_
  rintro e W3 ⟨rfl, hb⟩
  have bl := bl.trans (Below.mono hb bl.size)
  clear hb
  go_wp2_with fail
  have t7 := (Ob.new (W3) 23 #[.bool (sg x), .string (mg x)]).alloc (.cells #[.bool (sg y), .string (mg y)] 23)
  have t8 := Ob.new ((W3.alloc (.cells #[.bool (sg x), .string (mg x)] 23))) 23 #[.bool (sg y), .string (mg y)]
  have bl := ((bl.alloc (by have := bl.size; (try simp only [World.size_alloc] at *); omega) (.cells #[.bool (sg x), .string (mg x)] 23)).alloc (by have := bl.size; (try simp only [World.size_alloc] at *); omega) (.cells #[.bool (sg y), .string (mg y)] 23))
  try simp only [World.size_alloc] at t7 t8
  generalize hn4 : W3.heap.size = bk4 at t7 t8 ⊢
  clear hn4
  generalize World.alloc (World.alloc W3 _) _ = W4 at t7 t8 bl ⊢
  refine (A1.out W4).mono ?_
  rintro e W5 ⟨rfl, hb⟩
  have t7 := t7.below hb t7.lt
  have t8 := t8.below hb t8.lt
  have bl := bl.trans (Below.mono hb bl.size)
  clear hb
  go_wp2_with fail
  refine (J1.out W5).mono ?_
  rintro e W6 ⟨rfl, hb⟩
  have t7 := t7.below hb t7.lt
  have t8 := t8.below hb t8.lt
  have bl := bl.trans (Below.mono hb bl.size)
  clear hb
  obtain ⟨c0_0, c0_1⟩ := t7.cells2
  obtain ⟨c1_0, c1_1⟩ := t8.cells2
  go_wp2_with fail
  clear c0_0 c0_1 c1_0 c1_1
  refine (M1.out W6).mono ?_
  rintro e W7 ⟨rfl, hb⟩
  have t7 := t7.below hb t7.lt
  have t8 := t8.below hb t8.lt
  have bl := bl.trans (Below.mono hb bl.size)
  clear hb
  go_wp2_with fail
  refine (J2.out W7).mono ?_
  rintro e W8 ⟨rfl, hb⟩
  have t7 := t7.below hb t7.lt
  have t8 := t8.below hb t8.lt
  have bl := bl.trans (Below.mono hb bl.size)
  clear hb
  obtain ⟨c0_0, c0_1⟩ := t7.cells2
  obtain ⟨c1_0, c1_1⟩ := t8.cells2
  go_wp2_with fail
  clear c0_0 c0_1 c1_0 c1_1
  refine (C1.out W8).mono ?_
  rintro e W9 ⟨rfl, hb⟩
  have t7 := t7.below hb t7.lt
  have t8 := t8.below hb t8.lt
  have bl := bl.trans (Below.mono hb bl.size)
  clear hb
  obtain ⟨c0_0, c0_1⟩ := t7.cells2
  obtain ⟨c1_0, c1_1⟩ := t8.cells2
  go_wp2_with fail
  clear c0_0 c0_1 c1_0 c1_1
  rw [HQ.out]
  refine (D1.out W9).mono ?_
  rintro e W10 ⟨rfl, hb⟩
  have t7 := t7.below hb t7.lt
  have t8 := t8.below hb t8.lt
  have bl := bl.trans (Below.mono hb bl.size)
  clear hb
  go_wp2_with fail
  have t7 := ((t7.alloc (.cells #[.bool (sg u), .string (mg u)] 23)).alloc (.cells #[.bool (sg v), .string (mg v)] 23))
  have t8 := ((t8.alloc (.cells #[.bool (sg u), .string (mg u)] 23)).alloc (.cells #[.bool (sg v), .string (mg v)] 23))
  have t15 := (Ob.new (W10) 23 #[.bool (sg u), .string (mg u)]).alloc (.cells #[.bool (sg v), .string (mg v)] 23)
  have t16 := Ob.new ((W10.alloc (.cells #[.bool (sg u), .string (mg u)] 23))) 23 #[.bool (sg v), .string (mg v)]
  have bl := ((bl.alloc (by have := bl.size; (try simp only [World.size_alloc] at *); omega) (.cells #[.bool (sg u), .string (mg u)] 23)).alloc (by have := bl.size; (try simp only [World.size_alloc] at *); omega) (.cells #[.bool (sg v), .string (mg v)] 23))
  try simp only [World.size_alloc] at t7 t8 t15 t16
  generalize hn11 : W10.heap.size = bk11 at t15 t16 ⊢
  clear hn11
  generalize World.alloc (World.alloc W10 _) _ = W11 at t7 t8 t15 t16 bl ⊢
  refine region_qb (by kernel_rfl) (by kernel_rfl) ?_
  refine qb_mv (.int .i64 0) _ (.inl rfl) (by kernel_rfl) (by rfl) ?_
  simp only [Act.put, List.setIfInBounds_toArray, List.set_cons_zero, List.set_cons_succ]
  refine qb_run (.bool true) (by kernel_rfl) (fun w' hC => by go_simp) ?_
  simp only [Act.put, List.setIfInBounds_toArray, List.set_cons_zero, List.set_cons_succ]
  refine qb_mv (.bool true) _ (.inl rfl) (by kernel_rfl) (by rfl) ?_
  simp only [Act.put, List.setIfInBounds_toArray, List.set_cons_zero, List.set_cons_succ]
  refine qb_run (vI u) (by kernel_rfl) (fun w' hC => by obtain ⟨q0, q1⟩ := (t15.below hC t15.lt).cells2; go_simp) ?_
  simp only [Act.put, List.setIfInBounds_toArray, List.set_cons_zero, List.set_cons_succ]
  refine qb_mv (.int .i64 q) _ (.inl rfl) (by kernel_rfl) (by rfl) ?_
  simp only [Act.put, List.setIfInBounds_toArray, List.set_cons_zero, List.set_cons_succ]
  refine qb_call (vI u) 12 #[.int .i64 q] (by kernel_rfl) (fun w' => by go_simp) (fun w' hC => (O3.out w').mono (fun e w'' h => ⟨h.1, hC.step h.2⟩)) ?_
  simp only [Act.put, List.setIfInBounds_toArray, List.set_cons_zero, List.set_cons_succ]
  refine qb_run (.bool true) (by kernel_rfl) (fun w' hC => by go_simp) ?_
  simp only [Act.put, List.setIfInBounds_toArray, List.set_cons_zero, List.set_cons_succ]
  refine qb_run (.bool true) (by kernel_rfl) (fun w' hC => by go_simp) ?_
  simp only [Act.put, List.setIfInBounds_toArray, List.set_cons_zero, List.set_cons_succ]
  refine qb_mv (.bool true) _ (.inl rfl) (by kernel_rfl) (by rfl) ?_
  simp only [Act.put, List.setIfInBounds_toArray, List.set_cons_zero, List.set_cons_succ]
  refine qb_run (vI v) (by kernel_rfl) (fun w' hC => by obtain ⟨q0, q1⟩ := (t16.below hC t16.lt).cells2; go_simp) ?_
  simp only [Act.put, List.setIfInBounds_toArray, List.set_cons_zero, List.set_cons_succ]
  refine qb_mv (.int .i64 n) _ (.inl rfl) (by kernel_rfl) (by rfl) ?_
  simp only [Act.put, List.setIfInBounds_toArray, List.set_cons_zero, List.set_cons_succ]
  refine qb_mv (.int .i64 q) _ (.inl rfl) (by kernel_rfl) (by rfl) ?_
  simp only [Act.put, List.setIfInBounds_toArray, List.set_cons_zero, List.set_cons_succ]
  refine qb_mv (.int .i64 m) _ (.inl rfl) (by kernel_rfl) (by rfl) ?_
  simp only [Act.put, List.setIfInBounds_toArray, List.set_cons_zero, List.set_cons_succ]
  refine qb_run (.int .i64 t) (by kernel_rfl) (fun w' hC => by have h1 := HP.out; go_simp) ?_
  simp only [Act.put, List.setIfInBounds_toArray, List.set_cons_zero, List.set_cons_succ]
  refine qb_run (.int .i64 (n - t)) (by kernel_rfl) (fun w' hC => by have h1 := HT.out; go_simp) ?_
  simp only [Act.put, List.setIfInBounds_toArray, List.set_cons_zero, List.set_cons_succ]
  refine qb_call (vI v) 12 #[.int .i64 (n - t)] (by kernel_rfl) (fun w' => by go_simp) (fun w' hC => (O4.out w').mono (fun e w'' h => ⟨h.1, hC.step h.2⟩)) ?_
  simp only [Act.put, List.setIfInBounds_toArray, List.set_cons_zero, List.set_cons_succ]
  refine qb_run (.bool true) (by kernel_rfl) (fun w' hC => by go_simp) ?_
  simp only [Act.put, List.setIfInBounds_toArray, List.set_cons_zero, List.set_cons_succ]
  refine qb_run (.bool true) (by kernel_rfl) (fun w' hC => by go_simp) ?_
  simp only [Act.put, List.setIfInBounds_toArray, List.set_cons_zero, List.set_cons_succ]
  refine qb_mv (.bool true) _ (.inr rfl) (by kernel_rfl) (by rfl) ?_
  simp only [Act.put, List.setIfInBounds_toArray, List.set_cons_zero, List.set_cons_succ]
  refine wpQuiet_nil (fun W12 hb => ?_)
  have t7 := t7.below hb t7.lt
  have t8 := t8.below hb t8.lt
  have t15 := t15.below hb t15.lt
  have t16 := t16.below hb t16.lt
  have bl := bl.trans (Below.mono hb bl.size)
  clear hb
  go_wp2_with fail
  go_ret
  exact ⟨rfl, bl⟩

set_option maxHeartbeats 4000000 in
set_option maxRecDepth 100000 in
theorem Words_lt_same (a b n m x y s p u v q t : Int) (w : World)
    (HAW : ∀ W, Below w.heap.size w W → Calls Tryd.prog 10 #[] W (RetB true W))
    (hn0 : a.tdiv 2 = n) (hm0 : b.tdiv 2 = m)
    (n1 : -1073741824 ≤ n) (n2 : n ≤ 1073741824) (m1 : -1073741824 ≤ m) (m2 : m ≤ 1073741824)
    (ha1 : -2147483648 ≤ a) (ha2 : a ≤ 2147483647) (hb1 : -2147483648 ≤ b) (hb2 : b ≤ 2147483647)
    (p1 : -1152921504606846976 ≤ n * m) (p2 : n * m ≤ 1152921504606846976)
    (hc : n < m)
    (O1 : ∀ W, Calls Tryd.prog 12 #[.int .i64 n] W (RetI x W))
    (O2 : ∀ W, Calls Tryd.prog 12 #[.int .i64 m] W (RetI y W))
    (A1 : ∀ W, Calls Tryd.prog 13 #[vI x, vI y] W (RetI s W))
    (J1 : ∀ W, Calls Tryd.prog 23 #[vI s] W (RetNB (n + m) true W))
    (M1 : ∀ W, Calls Tryd.prog 14 #[vI x, vI y] W (RetI p W))
    (J2 : ∀ W, Calls Tryd.prog 23 #[vI p] W (RetNB (n * m) true W))
    (C1 : ∀ W, Calls Tryd.prog 20 #[vI x, vI y] W (RetN (-1) W))
    (hz : (m == 0) = false) (hz' : ¬ m = 0)
    (HQ : wrap64 (n.tdiv m) = q) (HQ1 : wrap64 (q - 1) = q - 1)
    (hr : (n.tmod m != 0) = true) (hsg : (!(decide (n < 0) == decide (m < 0))) = false)
    (HP : IntKind.i64.wrap ((q) * m) = t) (HT : IntKind.i64.wrap (n - t) = n - t)
    (D1 : ∀ W, Calls Tryd.prog 28 #[vI x, vI y] W (RetIIE u v 0 W))
    (O3 : ∀ W, Calls Tryd.prog 12 #[.int .i64 (q)] W (RetI u W))
    (O4 : ∀ W, Calls Tryd.prog 12 #[.int .i64 (n - t)] W (RetI v W)) :
    Calls Tryd.prog 7 #[.int .i32 a, .int .i32 b] w (RetB true w) := by
  replace HAW := Lib.hid HAW
  replace O1 := Lib.hid O1
  replace O2 := Lib.hid O2
  replace A1 := Lib.hid A1
  replace J1 := Lib.hid J1
  replace M1 := Lib.hid M1
  replace J2 := Lib.hid J2
  replace C1 := Lib.hid C1
  replace D1 := Lib.hid D1
  replace O3 := Lib.hid O3
  replace O4 := Lib.hid O4
  replace HP := Lib.hid HP
  replace HT := Lib.hid HT
  replace HQ := Lib.hid HQ
  replace HQ1 := Lib.hid HQ1
  have HN0 := Lib.hid hn0
  have HM0 := Lib.hid hm0
  clear hn0 hm0
  go_enter Tryd.func7, Tryd.ntmps7
  go_wp2_with fail
  refine (HAW.out w (Below.refl _ _)).mono ?_
  rintro e W1 ⟨rfl, hb⟩
  have bl : Below w.heap.size w _ := hb
  clear hb
  go_wp2_with fail
  rw [HN0.out]
  rw [HM0.out]
  clear HN0 HM0
  refine (O1.out W1).mono ?_
  rintro e W2 ⟨rfl, hb⟩
  have bl := bl.trans (Below.mono hb bl.size)
  clear hb
  go_wp2_with fail
  refine (O2.out W2).mono ?_
  rintro e W3 ⟨rfl, hb⟩
  have bl := bl.trans (Below.mono hb bl.size)
  clear hb
  go_wp2_with fail
  have t7 := (Ob.new (W3) 23 #[.bool (sg x), .string (mg x)]).alloc (.cells #[.bool (sg y), .string (mg y)] 23)
  have t8 := Ob.new ((W3.alloc (.cells #[.bool (sg x), .string (mg x)] 23))) 23 #[.bool (sg y), .string (mg y)]
  have bl := ((bl.alloc (by have := bl.size; (try simp only [World.size_alloc] at *); omega) (.cells #[.bool (sg x), .string (mg x)] 23)).alloc (by have := bl.size; (try simp only [World.size_alloc] at *); omega) (.cells #[.bool (sg y), .string (mg y)] 23))
  try simp only [World.size_alloc] at t7 t8
  generalize hn4 : W3.heap.size = bk4 at t7 t8 ⊢
  clear hn4
  generalize World.alloc (World.alloc W3 _) _ = W4 at t7 t8 bl ⊢
  refine (A1.out W4).mono ?_
  rintro e W5 ⟨rfl, hb⟩
  have t7 := t7.below hb t7.lt
  have t8 := t8.below hb t8.lt
  have bl := bl.trans (Below.mono hb bl.size)
  clear hb
  go_wp2_with fail
  refine (J1.out W5).mono ?_
  rintro e W6 ⟨rfl, hb⟩
  have t7 := t7.below hb t7.lt
  have t8 := t8.below hb t8.lt
  have bl := bl.trans (Below.mono hb bl.size)
  clear hb
  obtain ⟨c0_0, c0_1⟩ := t7.cells2
  obtain ⟨c1_0, c1_1⟩ := t8.cells2
  go_wp2_with fail
  clear c0_0 c0_1 c1_0 c1_1
  refine (M1.out W6).mono ?_
  rintro e W7 ⟨rfl, hb⟩
  have t7 := t7.below hb t7.lt
  have t8 := t8.below hb t8.lt
  have bl := bl.trans (Below.mono hb bl.size)
  clear hb
  go_wp2_with fail
  refine (J2.out W7).mono ?_
  rintro e W8 ⟨rfl, hb⟩
  have t7 := t7.below hb t7.lt
  have t8 := t8.below hb t8.lt
  have bl := bl.trans (Below.mono hb bl.size)
  clear hb
  obtain ⟨c0_0, c0_1⟩ := t7.cells2
  obtain ⟨c1_0, c1_1⟩ := t8.cells2
  go_wp2_with fail
  clear c0_0 c0_1 c1_0 c1_1
  refine (C1.out W8).mono ?_
  rintro e W9 ⟨rfl, hb⟩
  have t7 := t7.below hb t7.lt
  have t8 := t8.below hb t8.lt
  have bl := bl.trans (Below.mono hb bl.size)
  clear hb
  obtain ⟨c0_0, c0_1⟩ := t7.cells2
  obtain ⟨c1_0, c1_1⟩ := t8.cells2
  go_wp2_with fail
  clear c0_0 c0_1 c1_0 c1_1
  rw [HQ.out]
  refine (D1.out W9).mono ?_
  rintro e W10 ⟨rfl, hb⟩
  have t7 := t7.below hb t7.lt
  have t8 := t8.below hb t8.lt
  have bl := bl.trans (Below.mono hb bl.size)
  clear hb
  go_wp2_with fail
  have t7 := ((t7.alloc (.cells #[.bool (sg u), .string (mg u)] 23)).alloc (.cells #[.bool (sg v), .string (mg v)] 23))
  have t8 := ((t8.alloc (.cells #[.bool (sg u), .string (mg u)] 23)).alloc (.cells #[.bool (sg v), .string (mg v)] 23))
  have t15 := (Ob.new (W10) 23 #[.bool (sg u), .string (mg u)]).alloc (.cells #[.bool (sg v), .string (mg v)] 23)
  have t16 := Ob.new ((W10.alloc (.cells #[.bool (sg u), .string (mg u)] 23))) 23 #[.bool (sg v), .string (mg v)]
  have bl := ((bl.alloc (by have := bl.size; (try simp only [World.size_alloc] at *); omega) (.cells #[.bool (sg u), .string (mg u)] 23)).alloc (by have := bl.size; (try simp only [World.size_alloc] at *); omega) (.cells #[.bool (sg v), .string (mg v)] 23))
  try simp only [World.size_alloc] at t7 t8 t15 t16
  generalize hn11 : W10.heap.size = bk11 at t15 t16 ⊢
  clear hn11
  generalize World.alloc (World.alloc W10 _) _ = W11 at t7 t8 t15 t16 bl ⊢
  refine region_qb (by kernel_rfl) (by kernel_rfl) ?_
  refine qb_mv (.int .i64 0) _ (.inl rfl) (by kernel_rfl) (by rfl) ?_
  simp only [Act.put, List.setIfInBounds_toArray, List.set_cons_zero, List.set_cons_succ]
  refine qb_run (.bool true) (by kernel_rfl) (fun w' hC => by go_simp) ?_
  simp only [Act.put, List.setIfInBounds_toArray, List.set_cons_zero, List.set_cons_succ]
  refine qb_mv (.bool true) _ (.inl rfl) (by kernel_rfl) (by rfl) ?_
  simp only [Act.put, List.setIfInBounds_toArray, List.set_cons_zero, List.set_cons_succ]
  refine qb_run (vI u) (by kernel_rfl) (fun w' hC => by obtain ⟨q0, q1⟩ := (t15.below hC t15.lt).cells2; go_simp) ?_
  simp only [Act.put, List.setIfInBounds_toArray, List.set_cons_zero, List.set_cons_succ]
  refine qb_mv (.int .i64 q) _ (.inl rfl) (by kernel_rfl) (by rfl) ?_
  simp only [Act.put, List.setIfInBounds_toArray, List.set_cons_zero, List.set_cons_succ]
  refine qb_call (vI u) 12 #[.int .i64 q] (by kernel_rfl) (fun w' => by go_simp) (fun w' hC => (O3.out w').mono (fun e w'' h => ⟨h.1, hC.step h.2⟩)) ?_
  simp only [Act.put, List.setIfInBounds_toArray, List.set_cons_zero, List.set_cons_succ]
  refine qb_run (.bool true) (by kernel_rfl) (fun w' hC => by go_simp) ?_
  simp only [Act.put, List.setIfInBounds_toArray, List.set_cons_zero, List.set_cons_succ]
  refine qb_run (.bool true) (by kernel_rfl) (fun w' hC => by go_simp) ?_
  simp only [Act.put, List.setIfInBounds_toArray, List.set_cons_zero, List.set_cons_succ]
  refine qb_mv (.bool true) _ (.inl rfl) (by kernel_rfl) (by rfl) ?_
  simp only [Act.put, List.setIfInBounds_toArray, List.set_cons_zero, List.set_cons_succ]
  refine qb_run (vI v) (by kernel_rfl) (fun w' hC => by obtain ⟨q0, q1⟩ := (t16.below hC t16.lt).cells2; go_simp) ?_
  simp only [Act.put, List.setIfInBounds_toArray, List.set_cons_zero, List.set_cons_succ]
  refine qb_mv (.int .i64 n) _ (.inl rfl) (by kernel_rfl) (by rfl) ?_
  simp only [Act.put, List.setIfInBounds_toArray, List.set_cons_zero, List.set_cons_succ]
  refine qb_mv (.int .i64 q) _ (.inl rfl) (by kernel_rfl) (by rfl) ?_
  simp only [Act.put, List.setIfInBounds_toArray, List.set_cons_zero, List.set_cons_succ]
  refine qb_mv (.int .i64 m) _ (.inl rfl) (by kernel_rfl) (by rfl) ?_
  simp only [Act.put, List.setIfInBounds_toArray, List.set_cons_zero, List.set_cons_succ]
  refine qb_run (.int .i64 t) (by kernel_rfl) (fun w' hC => by have h1 := HP.out; go_simp) ?_
  simp only [Act.put, List.setIfInBounds_toArray, List.set_cons_zero, List.set_cons_succ]
  refine qb_run (.int .i64 (n - t)) (by kernel_rfl) (fun w' hC => by have h1 := HT.out; go_simp) ?_
  simp only [Act.put, List.setIfInBounds_toArray, List.set_cons_zero, List.set_cons_succ]
  refine qb_call (vI v) 12 #[.int .i64 (n - t)] (by kernel_rfl) (fun w' => by go_simp) (fun w' hC => (O4.out w').mono (fun e w'' h => ⟨h.1, hC.step h.2⟩)) ?_
  simp only [Act.put, List.setIfInBounds_toArray, List.set_cons_zero, List.set_cons_succ]
  refine qb_run (.bool true) (by kernel_rfl) (fun w' hC => by go_simp) ?_
  simp only [Act.put, List.setIfInBounds_toArray, List.set_cons_zero, List.set_cons_succ]
  refine qb_run (.bool true) (by kernel_rfl) (fun w' hC => by go_simp) ?_
  simp only [Act.put, List.setIfInBounds_toArray, List.set_cons_zero, List.set_cons_succ]
  refine qb_mv (.bool true) _ (.inr rfl) (by kernel_rfl) (by rfl) ?_
  simp only [Act.put, List.setIfInBounds_toArray, List.set_cons_zero, List.set_cons_succ]
  refine wpQuiet_nil (fun W12 hb => ?_)
  have t7 := t7.below hb t7.lt
  have t8 := t8.below hb t8.lt
  have t15 := t15.below hb t15.lt
  have t16 := t16.below hb t16.lt
  have bl := bl.trans (Below.mono hb bl.size)
  clear hb
  go_wp2_with fail
  go_ret
  exact ⟨rfl, bl⟩

set_option maxHeartbeats 4000000 in
set_option maxRecDepth 100000 in
theorem Words_eq_zero (a b n m x y s p u v q t : Int) (w : World)
    (HAW : ∀ W, Below w.heap.size w W → Calls Tryd.prog 10 #[] W (RetB true W))
    (hn0 : a.tdiv 2 = n) (hm0 : b.tdiv 2 = m)
    (n1 : -1073741824 ≤ n) (n2 : n ≤ 1073741824) (m1 : -1073741824 ≤ m) (m2 : m ≤ 1073741824)
    (ha1 : -2147483648 ≤ a) (ha2 : a ≤ 2147483647) (hb1 : -2147483648 ≤ b) (hb2 : b ≤ 2147483647)
    (p1 : -1152921504606846976 ≤ n * m) (p2 : n * m ≤ 1152921504606846976)
    (hc : ¬ n < m) (hc' : ¬ m < n)
    (O1 : ∀ W, Calls Tryd.prog 12 #[.int .i64 n] W (RetI x W))
    (O2 : ∀ W, Calls Tryd.prog 12 #[.int .i64 m] W (RetI y W))
    (A1 : ∀ W, Calls Tryd.prog 13 #[vI x, vI y] W (RetI s W))
    (J1 : ∀ W, Calls Tryd.prog 23 #[vI s] W (RetNB (n + m) true W))
    (M1 : ∀ W, Calls Tryd.prog 14 #[vI x, vI y] W (RetI p W))
    (J2 : ∀ W, Calls Tryd.prog 23 #[vI p] W (RetNB (n * m) true W))
    (C1 : ∀ W, Calls Tryd.prog 20 #[vI x, vI y] W (RetN (0) W))
    (hz : (m == 0) = true) :
    Calls Tryd.prog 7 #[.int .i32 a, .int .i32 b] w (RetB true w) := by
  replace HAW := Lib.hid HAW
  replace O1 := Lib.hid O1
  replace O2 := Lib.hid O2
  replace A1 := Lib.hid A1
  replace J1 := Lib.hid J1
  replace M1 := Lib.hid M1
  replace J2 := Lib.hid J2
  replace C1 := Lib.hid C1
  have HN0 := Lib.hid hn0
  have HM0 := Lib.hid hm0
  clear hn0 hm0
  go_enter Tryd.func7, Tryd.ntmps7
  go_wp2_with fail
  refine (HAW.out w (Below.refl _ _)).mono ?_
  rintro e W1 ⟨rfl, hb⟩
  have bl : Below w.heap.size w _ := hb
  clear hb
  go_wp2_with fail
  rw [HN0.out]
  rw [HM0.out]
  clear HN0 HM0
  refine (O1.out W1).mono ?_
  rintro e W2 ⟨rfl, hb⟩
  have bl := bl.trans (Below.mono hb bl.size)
  clear hb
  go_wp2_with fail
  refine (O2.out W2).mono ?_
  rintro e W3 ⟨rfl, hb⟩
  have bl := bl.trans (Below.mono hb bl.size)
  clear hb
  go_wp2_with fail
  have t7 := (Ob.new (W3) 23 #[.bool (sg x), .string (mg x)]).alloc (.cells #[.bool (sg y), .string (mg y)] 23)
  have t8 := Ob.new ((W3.alloc (.cells #[.bool (sg x), .string (mg x)] 23))) 23 #[.bool (sg y), .string (mg y)]
  have bl := ((bl.alloc (by have := bl.size; (try simp only [World.size_alloc] at *); omega) (.cells #[.bool (sg x), .string (mg x)] 23)).alloc (by have := bl.size; (try simp only [World.size_alloc] at *); omega) (.cells #[.bool (sg y), .string (mg y)] 23))
  try simp only [World.size_alloc] at t7 t8
  generalize hn4 : W3.heap.size = bk4 at t7 t8 ⊢
  clear hn4
  generalize World.alloc (World.alloc W3 _) _ = W4 at t7 t8 bl ⊢
  refine (A1.out W4).mono ?_
  rintro e W5 ⟨rfl, hb⟩
  have t7 := t7.below hb t7.lt
  have t8 := t8.below hb t8.lt
  have bl := bl.trans (Below.mono hb bl.size)
  clear hb
  go_wp2_with fail
  refine (J1.out W5).mono ?_
  rintro e W6 ⟨rfl, hb⟩
  have t7 := t7.below hb t7.lt
  have t8 := t8.below hb t8.lt
  have bl := bl.trans (Below.mono hb bl.size)
  clear hb
  obtain ⟨c0_0, c0_1⟩ := t7.cells2
  obtain ⟨c1_0, c1_1⟩ := t8.cells2
  go_wp2_with fail
  clear c0_0 c0_1 c1_0 c1_1
  refine (M1.out W6).mono ?_
  rintro e W7 ⟨rfl, hb⟩
  have t7 := t7.below hb t7.lt
  have t8 := t8.below hb t8.lt
  have bl := bl.trans (Below.mono hb bl.size)
  clear hb
  go_wp2_with fail
  refine (J2.out W7).mono ?_
  rintro e W8 ⟨rfl, hb⟩
  have t7 := t7.below hb t7.lt
  have t8 := t8.below hb t8.lt
  have bl := bl.trans (Below.mono hb bl.size)
  clear hb
  obtain ⟨c0_0, c0_1⟩ := t7.cells2
  obtain ⟨c1_0, c1_1⟩ := t8.cells2
  go_wp2_with fail
  clear c0_0 c0_1 c1_0 c1_1
  refine (C1.out W8).mono ?_
  rintro e W9 ⟨rfl, hb⟩
  have t7 := t7.below hb t7.lt
  have t8 := t8.below hb t8.lt
  have bl := bl.trans (Below.mono hb bl.size)
  clear hb
  go_wp2_with fail
  go_ret
  exact ⟨rfl, bl⟩

set_option maxHeartbeats 4000000 in
set_option maxRecDepth 100000 in
theorem Words_eq_nor (a b n m x y s p u v q t : Int) (w : World)
    (HAW : ∀ W, Below w.heap.size w W → Calls Tryd.prog 10 #[] W (RetB true W))
    (hn0 : a.tdiv 2 = n) (hm0 : b.tdiv 2 = m)
    (n1 : -1073741824 ≤ n) (n2 : n ≤ 1073741824) (m1 : -1073741824 ≤ m) (m2 : m ≤ 1073741824)
    (ha1 : -2147483648 ≤ a) (ha2 : a ≤ 2147483647) (hb1 : -2147483648 ≤ b) (hb2 : b ≤ 2147483647)
    (p1 : -1152921504606846976 ≤ n * m) (p2 : n * m ≤ 1152921504606846976)
    (hc : ¬ n < m) (hc' : ¬ m < n)
    (O1 : ∀ W, Calls Tryd.prog 12 #[.int .i64 n] W (RetI x W))
    (O2 : ∀ W, Calls Tryd.prog 12 #[.int .i64 m] W (RetI y W))
    (A1 : ∀ W, Calls Tryd.prog 13 #[vI x, vI y] W (RetI s W))
    (J1 : ∀ W, Calls Tryd.prog 23 #[vI s] W (RetNB (n + m) true W))
    (M1 : ∀ W, Calls Tryd.prog 14 #[vI x, vI y] W (RetI p W))
    (J2 : ∀ W, Calls Tryd.prog 23 #[vI p] W (RetNB (n * m) true W))
    (C1 : ∀ W, Calls Tryd.prog 20 #[vI x, vI y] W (RetN (0) W))
    (hz : (m == 0) = false) (hz' : ¬ m = 0)
    (HQ : wrap64 (n.tdiv m) = q) (HQ1 : wrap64 (q - 1) = q - 1)
    (hr : (n.tmod m != 0) = false)
    (HP : IntKind.i64.wrap ((q) * m) = t) (HT : IntKind.i64.wrap (n - t) = n - t)
    (D1 : ∀ W, Calls Tryd.prog 28 #[vI x, vI y] W (RetIIE u v 0 W))
    (O3 : ∀ W, Calls Tryd.prog 12 #[.int .i64 (q)] W (RetI u W))
    (O4 : ∀ W, Calls Tryd.prog 12 #[.int .i64 (n - t)] W (RetI v W)) :
    Calls Tryd.prog 7 #[.int .i32 a, .int .i32 b] w (RetB true w) := by
  replace HAW := Lib.hid HAW
  replace O1 := Lib.hid O1
  replace O2 := Lib.hid O2
  replace A1 := Lib.hid A1
  replace J1 := Lib.hid J1
  replace M1 := Lib.hid M1
  replace J2 := Lib.hid J2
  replace C1 := Lib.hid C1
  replace D1 := Lib.hid D1
  replace O3 := Lib.hid O3
  replace O4 := Lib.hid O4
  replace HP := Lib.hid HP
  replace HT := Lib.hid HT
  replace HQ := Lib.hid HQ
  replace HQ1 := Lib.hid HQ1
  have HN0 := Lib.hid hn0
  have HM0 := Lib.hid hm0
  clear hn0 hm0
  go_enter Tryd.func7, Tryd.ntmps7
  go_wp2_with fail
  refine (HAW.out w (Below.refl _ _)).mono ?_
  rintro e W1 ⟨rfl, hb⟩
  have bl : Below w.heap.size w _ := hb
  clear hb
  go_wp2_with fail
  rw [HN0.out]
  rw [HM0.out]
  clear HN0 HM0
  refine (O1.out W1).mono ?_
  rintro e W2 ⟨rfl, hb⟩
  have bl := bl.trans (Below.mono hb bl.size)
  clear hb
  go_wp2_with fail
  refine (O2.out W2).mono ?_
  rintro e W3 ⟨rfl, hb⟩
  have bl := bl.trans (Below.mono hb bl.size)
  clear hb
  go_wp2_with fail
  have t7 := (Ob.new (W3) 23 #[.bool (sg x), .string (mg x)]).alloc (.cells #[.bool (sg y), .string (mg y)] 23)
  have t8 := Ob.new ((W3.alloc (.cells #[.bool (sg x), .string (mg x)] 23))) 23 #[.bool (sg y), .string (mg y)]
  have bl := ((bl.alloc (by have := bl.size; (try simp only [World.size_alloc] at *); omega) (.cells #[.bool (sg x), .string (mg x)] 23)).alloc (by have := bl.size; (try simp only [World.size_alloc] at *); omega) (.cells #[.bool (sg y), .string (mg y)] 23))
  try simp only [World.size_alloc] at t7 t8
  generalize hn4 : W3.heap.size = bk4 at t7 t8 ⊢
  clear hn4
  generalize World.alloc (World.alloc W3 _) _ = W4 at t7 t8 bl ⊢
  refine (A1.out W4).mono ?_
  rintro e W5 ⟨rfl, hb⟩
  have t7 := t7.below hb t7.lt
  have t8 := t8.below hb t8.lt
  have bl := bl.trans (Below.mono hb bl.size)
  clear hb
  go_wp2_with fail
  refine (J1.out W5).mono ?_
  rintro e W6 ⟨rfl, hb⟩
  have t7 := t7.below hb t7.lt
  have t8 := t8.below hb t8.lt
  have bl := bl.trans (Below.mono hb bl.size)
  clear hb
  obtain ⟨c0_0, c0_1⟩ := t7.cells2
  obtain ⟨c1_0, c1_1⟩ := t8.cells2
  go_wp2_with fail
  clear c0_0 c0_1 c1_0 c1_1
  refine (M1.out W6).mono ?_
  rintro e W7 ⟨rfl, hb⟩
  have t7 := t7.below hb t7.lt
  have t8 := t8.below hb t8.lt
  have bl := bl.trans (Below.mono hb bl.size)
  clear hb
  go_wp2_with fail
  refine (J2.out W7).mono ?_
  rintro e W8 ⟨rfl, hb⟩
  have t7 := t7.below hb t7.lt
  have t8 := t8.below hb t8.lt
  have bl := bl.trans (Below.mono hb bl.size)
  clear hb
  obtain ⟨c0_0, c0_1⟩ := t7.cells2
  obtain ⟨c1_0, c1_1⟩ := t8.cells2
  go_wp2_with fail
  clear c0_0 c0_1 c1_0 c1_1
  refine (C1.out W8).mono ?_
  rintro e W9 ⟨rfl, hb⟩
  have t7 := t7.below hb t7.lt
  have t8 := t8.below hb t8.lt
  have bl := bl.trans (Below.mono hb bl.size)
  clear hb
  obtain ⟨c0_0, c0_1⟩ := t7.cells2
  obtain ⟨c1_0, c1_1⟩ := t8.cells2
  go_wp2_with fail
  clear c0_0 c0_1 c1_0 c1_1
  rw [HQ.out]
  refine (D1.out W9).mono ?_
  rintro e W10 ⟨rfl, hb⟩
  have t7 := t7.below hb t7.lt
  have t8 := t8.below hb t8.lt
  have bl := bl.trans (Below.mono hb bl.size)
  clear hb
  go_wp2_with fail
  have t7 := ((t7.alloc (.cells #[.bool (sg u), .string (mg u)] 23)).alloc (.cells #[.bool (sg v), .string (mg v)] 23))
  have t8 := ((t8.alloc (.cells #[.bool (sg u), .string (mg u)] 23)).alloc (.cells #[.bool (sg v), .string (mg v)] 23))
  have t15 := (Ob.new (W10) 23 #[.bool (sg u), .string (mg u)]).alloc (.cells #[.bool (sg v), .string (mg v)] 23)
  have t16 := Ob.new ((W10.alloc (.cells #[.bool (sg u), .string (mg u)] 23))) 23 #[.bool (sg v), .string (mg v)]
  have bl := ((bl.alloc (by have := bl.size; (try simp only [World.size_alloc] at *); omega) (.cells #[.bool (sg u), .string (mg u)] 23)).alloc (by have := bl.size; (try simp only [World.size_alloc] at *); omega) (.cells #[.bool (sg v), .string (mg v)] 23))
  try simp only [World.size_alloc] at t7 t8 t15 t16
  generalize hn11 : W10.heap.size = bk11 at t15 t16 ⊢
  clear hn11
  generalize World.alloc (World.alloc W10 _) _ = W11 at t7 t8 t15 t16 bl ⊢
  refine region_qb (by kernel_rfl) (by kernel_rfl) ?_
  refine qb_mv (.int .i64 0) _ (.inl rfl) (by kernel_rfl) (by rfl) ?_
  simp only [Act.put, List.setIfInBounds_toArray, List.set_cons_zero, List.set_cons_succ]
  refine qb_run (.bool true) (by kernel_rfl) (fun w' hC => by go_simp) ?_
  simp only [Act.put, List.setIfInBounds_toArray, List.set_cons_zero, List.set_cons_succ]
  refine qb_mv (.bool true) _ (.inl rfl) (by kernel_rfl) (by rfl) ?_
  simp only [Act.put, List.setIfInBounds_toArray, List.set_cons_zero, List.set_cons_succ]
  refine qb_run (vI u) (by kernel_rfl) (fun w' hC => by obtain ⟨q0, q1⟩ := (t15.below hC t15.lt).cells2; go_simp) ?_
  simp only [Act.put, List.setIfInBounds_toArray, List.set_cons_zero, List.set_cons_succ]
  refine qb_mv (.int .i64 q) _ (.inl rfl) (by kernel_rfl) (by rfl) ?_
  simp only [Act.put, List.setIfInBounds_toArray, List.set_cons_zero, List.set_cons_succ]
  refine qb_call (vI u) 12 #[.int .i64 q] (by kernel_rfl) (fun w' => by go_simp) (fun w' hC => (O3.out w').mono (fun e w'' h => ⟨h.1, hC.step h.2⟩)) ?_
  simp only [Act.put, List.setIfInBounds_toArray, List.set_cons_zero, List.set_cons_succ]
  refine qb_run (.bool true) (by kernel_rfl) (fun w' hC => by go_simp) ?_
  simp only [Act.put, List.setIfInBounds_toArray, List.set_cons_zero, List.set_cons_succ]
  refine qb_run (.bool true) (by kernel_rfl) (fun w' hC => by go_simp) ?_
  simp only [Act.put, List.setIfInBounds_toArray, List.set_cons_zero, List.set_cons_succ]
  refine qb_mv (.bool true) _ (.inl rfl) (by kernel_rfl) (by rfl) ?_
  simp only [Act.put, List.setIfInBounds_toArray, List.set_cons_zero, List.set_cons_succ]
  refine qb_run (vI v) (by kernel_rfl) (fun w' hC => by obtain ⟨q0, q1⟩ := (t16.below hC t16.lt).cells2; go_simp) ?_
  simp only [Act.put, List.setIfInBounds_toArray, List.set_cons_zero, List.set_cons_succ]
  refine qb_mv (.int .i64 n) _ (.inl rfl) (by kernel_rfl) (by rfl) ?_
  simp only [Act.put, List.setIfInBounds_toArray, List.set_cons_zero, List.set_cons_succ]
  refine qb_mv (.int .i64 q) _ (.inl rfl) (by kernel_rfl) (by rfl) ?_
  simp only [Act.put, List.setIfInBounds_toArray, List.set_cons_zero, List.set_cons_succ]
  refine qb_mv (.int .i64 m) _ (.inl rfl) (by kernel_rfl) (by rfl) ?_
  simp only [Act.put, List.setIfInBounds_toArray, List.set_cons_zero, List.set_cons_succ]
  refine qb_run (.int .i64 t) (by kernel_rfl) (fun w' hC => by have h1 := HP.out; go_simp) ?_
  simp only [Act.put, List.setIfInBounds_toArray, List.set_cons_zero, List.set_cons_succ]
  refine qb_run (.int .i64 (n - t)) (by kernel_rfl) (fun w' hC => by have h1 := HT.out; go_simp) ?_
  simp only [Act.put, List.setIfInBounds_toArray, List.set_cons_zero, List.set_cons_succ]
  refine qb_call (vI v) 12 #[.int .i64 (n - t)] (by kernel_rfl) (fun w' => by go_simp) (fun w' hC => (O4.out w').mono (fun e w'' h => ⟨h.1, hC.step h.2⟩)) ?_
  simp only [Act.put, List.setIfInBounds_toArray, List.set_cons_zero, List.set_cons_succ]
  refine qb_run (.bool true) (by kernel_rfl) (fun w' hC => by go_simp) ?_
  simp only [Act.put, List.setIfInBounds_toArray, List.set_cons_zero, List.set_cons_succ]
  refine qb_run (.bool true) (by kernel_rfl) (fun w' hC => by go_simp) ?_
  simp only [Act.put, List.setIfInBounds_toArray, List.set_cons_zero, List.set_cons_succ]
  refine qb_mv (.bool true) _ (.inr rfl) (by kernel_rfl) (by rfl) ?_
  simp only [Act.put, List.setIfInBounds_toArray, List.set_cons_zero, List.set_cons_succ]
  refine wpQuiet_nil (fun W12 hb => ?_)
  have t7 := t7.below hb t7.lt
  have t8 := t8.below hb t8.lt
  have t15 := t15.below hb t15.lt
  have t16 := t16.below hb t16.lt
  have bl := bl.trans (Below.mono hb bl.size)
  clear hb
  go_wp2_with fail
  go_ret
  exact ⟨rfl, bl⟩

set_option maxHeartbeats 4000000 in
set_option maxRecDepth 100000 in
theorem Words_gt_zero (a b n m x y s p u v q t : Int) (w : World)
    (HAW : ∀ W, Below w.heap.size w W → Calls Tryd.prog 10 #[] W (RetB true W))
    (hn0 : a.tdiv 2 = n) (hm0 : b.tdiv 2 = m)
    (n1 : -1073741824 ≤ n) (n2 : n ≤ 1073741824) (m1 : -1073741824 ≤ m) (m2 : m ≤ 1073741824)
    (ha1 : -2147483648 ≤ a) (ha2 : a ≤ 2147483647) (hb1 : -2147483648 ≤ b) (hb2 : b ≤ 2147483647)
    (p1 : -1152921504606846976 ≤ n * m) (p2 : n * m ≤ 1152921504606846976)
    (hc : ¬ n < m) (hc' : m < n)
    (O1 : ∀ W, Calls Tryd.prog 12 #[.int .i64 n] W (RetI x W))
    (O2 : ∀ W, Calls Tryd.prog 12 #[.int .i64 m] W (RetI y W))
    (A1 : ∀ W, Calls Tryd.prog 13 #[vI x, vI y] W (RetI s W))
    (J1 : ∀ W, Calls Tryd.prog 23 #[vI s] W (RetNB (n + m) true W))
    (M1 : ∀ W, Calls Tryd.prog 14 #[vI x, vI y] W (RetI p W))
    (J2 : ∀ W, Calls Tryd.prog 23 #[vI p] W (RetNB (n * m) true W))
    (C1 : ∀ W, Calls Tryd.prog 20 #[vI x, vI y] W (RetN (1) W))
    (hz : (m == 0) = true) :
    Calls Tryd.prog 7 #[.int .i32 a, .int .i32 b] w (RetB true w) := by
  replace HAW := Lib.hid HAW
  replace O1 := Lib.hid O1
  replace O2 := Lib.hid O2
  replace A1 := Lib.hid A1
  replace J1 := Lib.hid J1
  replace M1 := Lib.hid M1
  replace J2 := Lib.hid J2
  replace C1 := Lib.hid C1
  have HN0 := Lib.hid hn0
  have HM0 := Lib.hid hm0
  clear hn0 hm0
  go_enter Tryd.func7, Tryd.ntmps7
  go_wp2_with fail
  refine (HAW.out w (Below.refl _ _)).mono ?_
  rintro e W1 ⟨rfl, hb⟩
  have bl : Below w.heap.size w _ := hb
  clear hb
  go_wp2_with fail
  rw [HN0.out]
  rw [HM0.out]
  clear HN0 HM0
  refine (O1.out W1).mono ?_
  rintro e W2 ⟨rfl, hb⟩
  have bl := bl.trans (Below.mono hb bl.size)
  clear hb
  go_wp2_with fail
  refine (O2.out W2).mono ?_
  rintro e W3 ⟨rfl, hb⟩
  have bl := bl.trans (Below.mono hb bl.size)
  clear hb
  go_wp2_with fail
  have t7 := (Ob.new (W3) 23 #[.bool (sg x), .string (mg x)]).alloc (.cells #[.bool (sg y), .string (mg y)] 23)
  have t8 := Ob.new ((W3.alloc (.cells #[.bool (sg x), .string (mg x)] 23))) 23 #[.bool (sg y), .string (mg y)]
  have bl := ((bl.alloc (by have := bl.size; (try simp only [World.size_alloc] at *); omega) (.cells #[.bool (sg x), .string (mg x)] 23)).alloc (by have := bl.size; (try simp only [World.size_alloc] at *); omega) (.cells #[.bool (sg y), .string (mg y)] 23))
  try simp only [World.size_alloc] at t7 t8
  generalize hn4 : W3.heap.size = bk4 at t7 t8 ⊢
  clear hn4
  generalize World.alloc (World.alloc W3 _) _ = W4 at t7 t8 bl ⊢
  refine (A1.out W4).mono ?_
  rintro e W5 ⟨rfl, hb⟩
  have t7 := t7.below hb t7.lt
  have t8 := t8.below hb t8.lt
  have bl := bl.trans (Below.mono hb bl.size)
  clear hb
  go_wp2_with fail
  refine (J1.out W5).mono ?_
  rintro e W6 ⟨rfl, hb⟩
  have t7 := t7.below hb t7.lt
  have t8 := t8.below hb t8.lt
  have bl := bl.trans (Below.mono hb bl.size)
  clear hb
  obtain ⟨c0_0, c0_1⟩ := t7.cells2
  obtain ⟨c1_0, c1_1⟩ := t8.cells2
  go_wp2_with fail
  clear c0_0 c0_1 c1_0 c1_1
  refine (M1.out W6).mono ?_
  rintro e W7 ⟨rfl, hb⟩
  have t7 := t7.below hb t7.lt
  have t8 := t8.below hb t8.lt
  have bl := bl.trans (Below.mono hb bl.size)
  clear hb
  go_wp2_with fail
  refine (J2.out W7).mono ?_
  rintro e W8 ⟨rfl, hb⟩
  have t7 := t7.below hb t7.lt
  have t8 := t8.below hb t8.lt
  have bl := bl.trans (Below.mono hb bl.size)
  clear hb
  obtain ⟨c0_0, c0_1⟩ := t7.cells2
  obtain ⟨c1_0, c1_1⟩ := t8.cells2
  go_wp2_with fail
  clear c0_0 c0_1 c1_0 c1_1
  refine (C1.out W8).mono ?_
  rintro e W9 ⟨rfl, hb⟩
  have t7 := t7.below hb t7.lt
  have t8 := t8.below hb t8.lt
  have bl := bl.trans (Below.mono hb bl.size)
  clear hb
  go_wp2_with fail
  go_ret
  exact ⟨rfl, bl⟩

set_option maxHeartbeats 4000000 in
set_option maxRecDepth 100000 in
theorem Words_gt_corr (a b n m x y s p u v q t : Int) (w : World)
    (HAW : ∀ W, Below w.heap.size w W → Calls Tryd.prog 10 #[] W (RetB true W))
    (hn0 : a.tdiv 2 = n) (hm0 : b.tdiv 2 = m)
    (n1 : -1073741824 ≤ n) (n2 : n ≤ 1073741824) (m1 : -1073741824 ≤ m) (m2 : m ≤ 1073741824)
    (ha1 : -2147483648 ≤ a) (ha2 : a ≤ 2147483647) (hb1 : -2147483648 ≤ b) (hb2 : b ≤ 2147483647)
    (p1 : -1152921504606846976 ≤ n * m) (p2 : n * m ≤ 1152921504606846976)
    (hc : ¬ n < m) (hc' : m < n)
    (O1 : ∀ W, Calls Tryd.prog 12 #[.int .i64 n] W (RetI x W))
    (O2 : ∀ W, Calls Tryd.prog 12 #[.int .i64 m] W (RetI y W))
    (A1 : ∀ W, Calls Tryd.prog 13 #[vI x, vI y] W (RetI s W))
    (J1 : ∀ W, Calls Tryd.prog 23 #[vI s] W (RetNB (n + m) true W))
    (M1 : ∀ W, Calls Tryd.prog 14 #[vI x, vI y] W (RetI p W))
    (J2 : ∀ W, Calls Tryd.prog 23 #[vI p] W (RetNB (n * m) true W))
    (C1 : ∀ W, Calls Tryd.prog 20 #[vI x, vI y] W (RetN (1) W))
    (hz : (m == 0) = false) (hz' : ¬ m = 0)
    (HQ : wrap64 (n.tdiv m) = q) (HQ1 : wrap64 (q - 1) = q - 1)
    (hr : (n.tmod m != 0) = true) (hsg : (!(decide (n < 0) == decide (m < 0))) = true)
    (HP : IntKind.i64.wrap ((q - 1) * m) = t) (HT : IntKind.i64.wrap (n - t) = n - t)
    (D1 : ∀ W, Calls Tryd.prog 28 #[vI x, vI y] W (RetIIE u v 0 W))
    (O3 : ∀ W, Calls Tryd.prog 12 #[.int .i64 (q - 1)] W (RetI u W))
    (O4 : ∀ W, Calls Tryd.prog 12 #[.int .i64 (n - t)] W (RetI v W)) :
    Calls Tryd.prog 7 #[.int .i32 a, .int .i32 b] w (RetB true w) := by
  replace HAW := Lib.hid HAW
  replace O1 := Lib.hid O1
  replace O2 := Lib.hid O2
  replace A1 := Lib.hid A1
  replace J1 := Lib.hid J1
  replace M1 := Lib.hid M1
  replace J2 := Lib.hid J2
  replace C1 := Lib.hid C1
  replace D1 := Lib.hid D1
  replace O3 := Lib.hid O3
  replace O4 := Lib.hid O4
  replace HP := Lib.hid HP
  replace HT := Lib.hid HT
  replace HQ := Lib.hid HQ
  replace HQ1 := Lib.hid HQ1
  have HN0 := Lib.hid hn0
  have HM0 := Lib.hid hm0
  clear hn0 hm0
  go_enter Tryd.func7, Tryd.ntmps7
  go_wp2_with fail
  refine (HAW.out w (Below.refl _ _)).mono ?_
  rintro e W1 ⟨rfl, hb⟩
  have bl : Below w.heap.size w _ := hb
  clear hb
  go_wp2_with fail
  rw [HN0.out]
  rw [HM0.out]
  clear HN0 HM0
  refine (O1.out W1).mono ?_
  rintro e W2 ⟨rfl, hb⟩
  have bl := bl.trans (Below.mono hb bl.size)
  clear hb
  go_wp2_with fail
  refine (O2.out W2).mono ?_
  rintro e W3 ⟨rfl, hb⟩
  have bl := bl.trans (Below.mono hb bl.size)
  clear hb
  go_wp2_with fail
  have t7 := (Ob.new (W3) 23 #[.bool (sg x), .string (mg x)]).alloc (.cells #[.bool (sg y), .string (mg y)] 23)
  have t8 := Ob.new ((W3.alloc (.cells #[.bool (sg x), .string (mg x)] 23))) 23 #[.bool (sg y), .string (mg y)]
  have bl := ((bl.alloc (by have := bl.size; (try simp only [World.size_alloc] at *); omega) (.cells #[.bool (sg x), .string (mg x)] 23)).alloc (by have := bl.size; (try simp only [World.size_alloc] at *); omega) (.cells #[.bool (sg y), .string (mg y)] 23))
  try simp only [World.size_alloc] at t7 t8
  generalize hn4 : W3.heap.size = bk4 at t7 t8 ⊢
  clear hn4
  generalize World.alloc (World.alloc W3 _) _ = W4 at t7 t8 bl ⊢
  refine (A1.out W4).mono ?_
  rintro e W5 ⟨rfl, hb⟩
  have t7 := t7.below hb t7.lt
  have t8 := t8.below hb t8.lt
  have bl := bl.trans (Below.mono hb bl.size)
  clear hb
  go_wp2_with fail
  refine (J1.out W5).mono ?_
  rintro e W6 ⟨rfl, hb⟩
  have t7 := t7.below hb t7.lt
  have t8 := t8.below hb t8.lt
  have bl := bl.trans (Below.mono hb bl.size)
  clear hb
  obtain ⟨c0_0, c0_1⟩ := t7.cells2
  obtain ⟨c1_0, c1_1⟩ := t8.cells2
  go_wp2_with fail
  clear c0_0 c0_1 c1_0 c1_1
  refine (M1.out W6).mono ?_
  rintro e W7 ⟨rfl, hb⟩
  have t7 := t7.below hb t7.lt
  have t8 := t8.below hb t8.lt
  have bl := bl.trans (Below.mono hb bl.size)
  clear hb
  go_wp2_with fail
  refine (J2.out W7).mono ?_
  rintro e W8 ⟨rfl, hb⟩
  have t7 := t7.below hb t7.lt
  have t8 := t8.below hb t8.lt
  have bl := bl.trans (Below.mono hb bl.size)
  clear hb
  obtain ⟨c0_0, c0_1⟩ := t7.cells2
  obtain ⟨c1_0, c1_1⟩ := t8.cells2
  go_wp2_with fail
  clear c0_0 c0_1 c1_0 c1_1
  refine (C1.out W8).mono ?_
  rintro e W9 ⟨rfl, hb⟩
  have t7 := t7.below hb t7.lt
  have t8 := t8.below hb t8.lt
  have bl := bl.trans (Below.mono hb bl.size)
  clear hb
  obtain ⟨c0_0, c0_1⟩ := t7.cells2
  obtain ⟨c1_0, c1_1⟩ := t8.cells2
  go_wp2_with fail
  clear c0_0 c0_1 c1_0 c1_1
  rw [HQ.out]
  rw [HQ1.out]
  refine (D1.out W9).mono ?_
  rintro e W10 ⟨rfl, hb⟩
  have t7 := t7.below hb t7.lt
  have t8 := t8.below hb t8.lt
  have bl := bl.trans (Below.mono hb bl.size)
  clear hb
  go_wp2_with fail
  have t7 := ((t7.alloc (.cells #[.bool (sg u), .string (mg u)] 23)).alloc (.cells #[.bool (sg v), .string (mg v)] 23))
  have t8 := ((t8.alloc (.cells #[.bool (sg u), .string (mg u)] 23)).alloc (.cells #[.bool (sg v), .string (mg v)] 23))
  have t15 := (Ob.new (W10) 23 #[.bool (sg u), .string (mg u)]).alloc (.cells #[.bool (sg v), .string (mg v)] 23)
  have t16 := Ob.new ((W10.alloc (.cells #[.bool (sg u), .string (mg u)] 23))) 23 #[.bool (sg v), .string (mg v)]
  have bl := ((bl.alloc (by have := bl.size; (try simp only [World.size_alloc] at *); omega) (.cells #[.bool (sg u), .string (mg u)] 23)).alloc (by have := bl.size; (try simp only [World.size_alloc] at *); omega) (.cells #[.bool (sg v), .string (mg v)] 23))
  try simp only [World.size_alloc] at t7 t8 t15 t16
  generalize hn11 : W10.heap.size = bk11 at t15 t16 ⊢
  clear hn11
  generalize World.alloc (World.alloc W10 _) _ = W11 at t7 t8 t15 t16 bl ⊢
  refine region_qb (by kernel_rfl) (by kernel_rfl) ?_
  refine qb_mv (.int .i64 0) _ (.inl rfl) (by kernel_rfl) (by rfl) ?_
  simp only [Act.put, List.setIfInBounds_toArray, List.set_cons_zero, List.set_cons_succ]
  refine qb_run (.bool true) (by kernel_rfl) (fun w' hC => by go_simp) ?_
  simp only [Act.put, List.setIfInBounds_toArray, List.set_cons_zero, List.set_cons_succ]
  refine qb_mv (.bool true) _ (.inl rfl) (by kernel_rfl) (by rfl) ?_
  simp only [Act.put, List.setIfInBounds_toArray, List.set_cons_zero, List.set_cons_succ]
  refine qb_run (vI u) (by kernel_rfl) (fun w' hC => by obtain ⟨q0, q1⟩ := (t15.below hC t15.lt).cells2; go_simp) ?_
  simp only [Act.put, List.setIfInBounds_toArray, List.set_cons_zero, List.set_cons_succ]
  refine qb_mv (.int .i64 (q - 1)) _ (.inl rfl) (by kernel_rfl) (by rfl) ?_
  simp only [Act.put, List.setIfInBounds_toArray, List.set_cons_zero, List.set_cons_succ]
  refine qb_call (vI u) 12 #[.int .i64 (q - 1)] (by kernel_rfl) (fun w' => by go_simp) (fun w' hC => (O3.out w').mono (fun e w'' h => ⟨h.1, hC.step h.2⟩)) ?_
  simp only [Act.put, List.setIfInBounds_toArray, List.set_cons_zero, List.set_cons_succ]
  refine qb_run (.bool true) (by kernel_rfl) (fun w' hC => by go_simp) ?_
  simp only [Act.put, List.setIfInBounds_toArray, List.set_cons_zero, List.set_cons_succ]
  refine qb_run (.bool true) (by kernel_rfl) (fun w' hC => by go_simp) ?_
  simp only [Act.put, List.setIfInBounds_toArray, List.set_cons_zero, List.set_cons_succ]
  refine qb_mv (.bool true) _ (.inl rfl) (by kernel_rfl) (by rfl) ?_
  simp only [Act.put, List.setIfInBounds_toArray, List.set_cons_zero, List.set_cons_succ]
  refine qb_run (vI v) (by kernel_rfl) (fun w' hC => by obtain ⟨q0, q1⟩ := (t16.below hC t16.lt).cells2; go_simp) ?_
  simp only [Act.put, List.setIfInBounds_toArray, List.set_cons_zero, List.set_cons_succ]
  refine qb_mv (.int .i64 n) _ (.inl rfl) (by kernel_rfl) (by rfl) ?_
  simp only [Act.put, List.setIfInBounds_toArray, List.set_cons_zero, List.set_cons_succ]
  refine qb_mv (.int .i64 (q - 1)) _ (.inl rfl) (by kernel_rfl) (by rfl) ?_
  simp only [Act.put, List.setIfInBounds_toArray, List.set_cons_zero, List.set_cons_succ]
  refine qb_mv (.int .i64 m) _ (.inl rfl) (by kernel_rfl) (by rfl) ?_
  simp only [Act.put, List.setIfInBounds_toArray, List.set_cons_zero, List.set_cons_succ]
  refine qb_run (.int .i64 t) (by kernel_rfl) (fun w' hC => by have h1 := HP.out; go_simp) ?_
  simp only [Act.put, List.setIfInBounds_toArray, List.set_cons_zero, List.set_cons_succ]
  refine qb_run (.int .i64 (n - t)) (by kernel_rfl) (fun w' hC => by have h1 := HT.out; go_simp) ?_
  simp only [Act.put, List.setIfInBounds_toArray, List.set_cons_zero, List.set_cons_succ]
  refine qb_call (vI v) 12 #[.int .i64 (n - t)] (by kernel_rfl) (fun w' => by go_simp) (fun w' hC => (O4.out w').mono (fun e w'' h => ⟨h.1, hC.step h.2⟩)) ?_
  simp only [Act.put, List.setIfInBounds_toArray, List.set_cons_zero, List.set_cons_succ]
  refine qb_run (.bool true) (by kernel_rfl) (fun w' hC => by go_simp) ?_
  simp only [Act.put, List.setIfInBounds_toArray, List.set_cons_zero, List.set_cons_succ]
  refine qb_run (.bool true) (by kernel_rfl) (fun w' hC => by go_simp) ?_
  simp only [Act.put, List.setIfInBounds_toArray, List.set_cons_zero, List.set_cons_succ]
  refine qb_mv (.bool true) _ (.inr rfl) (by kernel_rfl) (by rfl) ?_
  simp only [Act.put, List.setIfInBounds_toArray, List.set_cons_zero, List.set_cons_succ]
  refine wpQuiet_nil (fun W12 hb => ?_)
  have t7 := t7.below hb t7.lt
  have t8 := t8.below hb t8.lt
  have t15 := t15.below hb t15.lt
  have t16 := t16.below hb t16.lt
  have bl := bl.trans (Below.mono hb bl.size)
  clear hb
  go_wp2_with fail
  go_ret
  exact ⟨rfl, bl⟩

set_option maxHeartbeats 4000000 in
set_option maxRecDepth 100000 in
theorem Words_gt_nor (a b n m x y s p u v q t : Int) (w : World)
    (HAW : ∀ W, Below w.heap.size w W → Calls Tryd.prog 10 #[] W (RetB true W))
    (hn0 : a.tdiv 2 = n) (hm0 : b.tdiv 2 = m)
    (n1 : -1073741824 ≤ n) (n2 : n ≤ 1073741824) (m1 : -1073741824 ≤ m) (m2 : m ≤ 1073741824)
    (ha1 : -2147483648 ≤ a) (ha2 : a ≤ 2147483647) (hb1 : -2147483648 ≤ b) (hb2 : b ≤ 2147483647)
    (p1 : -1152921504606846976 ≤ n * m) (p2 : n * m ≤ 1152921504606846976)
    (hc : ¬ n < m) (hc' : m < n)
    (O1 : ∀ W, Calls Tryd.prog 12 #[.int .i64 n] W (RetI x W))
    (O2 : ∀ W, Calls Tryd.prog 12 #[.int .i64 m] W (RetI y W))
    (A1 : ∀ W, Calls Tryd.prog 13 #[vI x, vI y] W (RetI s W))
    (J1 : ∀ W, Calls Tryd.prog 23 #[vI s] W (RetNB (n + m) true W))
    (M1 : ∀ W, Calls Tryd.prog 14 #[vI x, vI y] W (RetI p W))
    (J2 : ∀ W, Calls Tryd.prog 23 #[vI p] W (RetNB (n * m) true W))
    (C1 : ∀ W, Calls Tryd.prog 20 #[vI x, vI y] W (RetN (1) W))
    (hz : (m == 0) = false) (hz' : ¬ m = 0)
    (HQ : wrap64 (n.tdiv m) = q) (HQ1 : wrap64 (q - 1) = q - 1)
    (hr : (n.tmod m != 0) = false)
    (HP : IntKind.i64.wrap ((q) * m) = t) (HT : IntKind.i64.wrap (n - t) = n - t)
    (D1 : ∀ W, Calls Tryd.prog 28 #[vI x, vI y] W (RetIIE u v 0 W))
    (O3 : ∀ W, Calls Tryd.prog 12 #[.int .i64 (q)] W (RetI u W))
    (O4 : ∀ W, Calls Tryd.prog 12 #[.int .i64 (n - t)] W (RetI v W)) :
    Calls Tryd.prog 7 #[.int .i32 a, .int .i32 b] w (RetB true w) := by
  replace HAW := Lib.hid HAW
  replace O1 := Lib.hid O1
  replace O2 := Lib.hid O2
  replace A1 := Lib.hid A1
  replace J1 := Lib.hid J1
  replace M1 := Lib.hid M1
  replace J2 := Lib.hid J2
  replace C1 := Lib.hid C1
  replace D1 := Lib.hid D1
  replace O3 := Lib.hid O3
  replace O4 := Lib.hid O4
  replace HP := Lib.hid HP
  replace HT := Lib.hid HT
  replace HQ := Lib.hid HQ
  replace HQ1 := Lib.hid HQ1
  have HN0 := Lib.hid hn0
  have HM0 := Lib.hid hm0
  clear hn0 hm0
  go_enter Tryd.func7, Tryd.ntmps7
  go_wp2_with fail
  refine (HAW.out w (Below.refl _ _)).mono ?_
  rintro e W1 ⟨rfl, hb⟩
  have bl : Below w.heap.size w _ := hb
  clear hb
  go_wp2_with fail
  rw [HN0.out]
  rw [HM0.out]
  clear HN0 HM0
  refine (O1.out W1).mono ?_
  rintro e W2 ⟨rfl, hb⟩
  have bl := bl.trans (Below.mono hb bl.size)
  clear hb
  go_wp2_with fail
  refine (O2.out W2).mono ?_
  rintro e W3 ⟨rfl, hb⟩
  have bl := bl.trans (Below.mono hb bl.size)
  clear hb
  go_wp2_with fail
  have t7 := (Ob.new (W3) 23 #[.bool (sg x), .string (mg x)]).alloc (.cells #[.bool (sg y), .string (mg y)] 23)
  have t8 := Ob.new ((W3.alloc (.cells #[.bool (sg x), .string (mg x)] 23))) 23 #[.bool (sg y), .string (mg y)]
  have bl := ((bl.alloc (by have := bl.size; (try simp only [World.size_alloc] at *); omega) (.cells #[.bool (sg x), .string (mg x)] 23)).alloc (by have := bl.size; (try simp only [World.size_alloc] at *); omega) (.cells #[.bool (sg y), .string (mg y)] 23))
  try simp only [World.size_alloc] at t7 t8
  generalize hn4 : W3.heap.size = bk4 at t7 t8 ⊢
  clear hn4
  generalize World.alloc (World.alloc W3 _) _ = W4 at t7 t8 bl ⊢
  refine (A1.out W4).mono ?_
  rintro e W5 ⟨rfl, hb⟩
  have t7 := t7.below hb t7.lt
  have t8 := t8.below hb t8.lt
  have bl := bl.trans (Below.mono hb bl.size)
  clear hb
  go_wp2_with fail
  refine (J1.out W5).mono ?_
  rintro e W6 ⟨rfl, hb⟩
  have t7 := t7.below hb t7.lt
  have t8 := t8.below hb t8.lt
  have bl := bl.trans (Below.mono hb bl.size)
  clear hb
  obtain ⟨c0_0, c0_1⟩ := t7.cells2
  obtain ⟨c1_0, c1_1⟩ := t8.cells2
  go_wp2_with fail
  clear c0_0 c0_1 c1_0 c1_1
  refine (M1.out W6).mono ?_
  rintro e W7 ⟨rfl, hb⟩
  have t7 := t7.below hb t7.lt
  have t8 := t8.below hb t8.lt
  have bl := bl.trans (Below.mono hb bl.size)
  clear hb
  go_wp2_with fail
  refine (J2.out W7).mono ?_
  rintro e W8 ⟨rfl, hb⟩
  have t7 := t7.below hb t7.lt
  have t8 := t8.below hb t8.lt
  have bl := bl.trans (Below.mono hb bl.size)
  clear hb
  obtain ⟨c0_0, c0_1⟩ := t7.cells2
  obtain ⟨c1_0, c1_1⟩ := t8.cells2
  go_wp2_with fail
  clear c0_0 c0_1 c1_0 c1_1
  refine (C1.out W8).mono ?_
  rintro e W9 ⟨rfl, hb⟩
  have t7 := t7.below hb t7.lt
  have t8 := t8.below hb t8.lt
  have bl := bl.trans (Below.mono hb bl.size)
  clear hb
  obtain ⟨c0_0, c0_1⟩ := t7.cells2
  obtain ⟨c1_0, c1_1⟩ := t8.cells2
  go_wp2_with fail
  clear c0_0 c0_1 c1_0 c1_1
  rw [HQ.out]
  refine (D1.out W9).mono ?_
  rintro e W10 ⟨rfl, hb⟩
  have t7 := t7.below hb t7.lt
  have t8 := t8.below hb t8.lt
  have bl := bl.trans (Below.mono hb bl.size)
  clear hb
  go_wp2_with fail
  have t7 := ((t7.alloc (.cells #[.bool (sg u), .string (mg u)] 23)).alloc (.cells #[.bool (sg v), .string (mg v)] 23))
  have t8 := ((t8.alloc (.cells #[.bool (sg u), .string (mg u)] 23)).alloc (.cells #[.bool (sg v), .string (mg v)] 23))
  have t15 := (Ob.new (W10) 23 #[.bool (sg u), .string (mg u)]).alloc (.cells #[.bool (sg v), .string (mg v)] 23)
  have t16 := Ob.new ((W10.alloc (.cells #[.bool (sg u), .string (mg u)] 23))) 23 #[.bool (sg v), .string (mg v)]
  have bl := ((bl.alloc (by have := bl.size; (try simp only [World.size_alloc] at *); omega) (.cells #[.bool (sg u), .string (mg u)] 23)).alloc (by have := bl.size; (try simp only [World.size_alloc] at *); omega) (.cells #[.bool (sg v), .string (mg v)] 23))
  try simp only [World.size_alloc] at t7 t8 t15 t16
  generalize hn11 : W10.heap.size = bk11 at t15 t16 ⊢
  clear hn11
  generalize World.alloc (World.alloc W10 _) _ = W11 at t7 t8 t15 t16 bl ⊢
  refine region_qb (by kernel_rfl) (by kernel_rfl) ?_
  refine qb_mv (.int .i64 0) _ (.inl rfl) (by kernel_rfl) (by rfl) ?_
  simp only [Act.put, List.setIfInBounds_toArray, List.set_cons_zero, List.set_cons_succ]
  refine qb_run (.bool true) (by kernel_rfl) (fun w' hC => by go_simp) ?_
  simp only [Act.put, List.setIfInBounds_toArray, List.set_cons_zero, List.set_cons_succ]
  refine qb_mv (.bool true) _ (.inl rfl) (by kernel_rfl) (by rfl) ?_
  simp only [Act.put, List.setIfInBounds_toArray, List.set_cons_zero, List.set_cons_succ]
  refine qb_run (vI u) (by kernel_rfl) (fun w' hC => by obtain ⟨q0, q1⟩ := (t15.below hC t15.lt).cells2; go_simp) ?_
  simp only [Act.put, List.setIfInBounds_toArray, List.set_cons_zero, List.set_cons_succ]
  refine qb_mv (.int .i64 q) _ (.inl rfl) (by kernel_rfl) (by rfl) ?_
  simp only [Act.put, List.setIfInBounds_toArray, List.set_cons_zero, List.set_cons_succ]
  refine qb_call (vI u) 12 #[.int .i64 q] (by kernel_rfl) (fun w' => by go_simp) (fun w' hC => (O3.out w').mono (fun e w'' h => ⟨h.1, hC.step h.2⟩)) ?_
  simp only [Act.put, List.setIfInBounds_toArray, List.set_cons_zero, List.set_cons_succ]
  refine qb_run (.bool true) (by kernel_rfl) (fun w' hC => by go_simp) ?_
  simp only [Act.put, List.setIfInBounds_toArray, List.set_cons_zero, List.set_cons_succ]
  refine qb_run (.bool true) (by kernel_rfl) (fun w' hC => by go_simp) ?_
  simp only [Act.put, List.setIfInBounds_toArray, List.set_cons_zero, List.set_cons_succ]
  refine qb_mv (.bool true) _ (.inl rfl) (by kernel_rfl) (by rfl) ?_
  simp only [Act.put, List.setIfInBounds_toArray, List.set_cons_zero, List.set_cons_succ]
  refine qb_run (vI v) (by kernel_rfl) (fun w' hC => by obtain ⟨q0, q1⟩ := (t16.below hC t16.lt).cells2; go_simp) ?_
  simp only [Act.put, List.setIfInBounds_toArray, List.set_cons_zero, List.set_cons_succ]
  refine qb_mv (.int .i64 n) _ (.inl rfl) (by kernel_rfl) (by rfl) ?_
  simp only [Act.put, List.setIfInBounds_toArray, List.set_cons_zero, List.set_cons_succ]
  refine qb_mv (.int .i64 q) _ (.inl rfl) (by kernel_rfl) (by rfl) ?_
  simp only [Act.put, List.setIfInBounds_toArray, List.set_cons_zero, List.set_cons_succ]
  refine qb_mv (.int .i64 m) _ (.inl rfl) (by kernel_rfl) (by rfl) ?_
  simp only [Act.put, List.setIfInBounds_toArray, List.set_cons_zero, List.set_cons_succ]
  refine qb_run (.int .i64 t) (by kernel_rfl) (fun w' hC => by have h1 := HP.out; go_simp) ?_
  simp only [Act.put, List.setIfInBounds_toArray, List.set_cons_zero, List.set_cons_succ]
  refine qb_run (.int .i64 (n - t)) (by kernel_rfl) (fun w' hC => by have h1 := HT.out; go_simp) ?_
  simp only [Act.put, List.setIfInBounds_toArray, List.set_cons_zero, List.set_cons_succ]
  refine qb_call (vI v) 12 #[.int .i64 (n - t)] (by kernel_rfl) (fun w' => by go_simp) (fun w' hC => (O4.out w').mono (fun e w'' h => ⟨h.1, hC.step h.2⟩)) ?_
  simp only [Act.put, List.setIfInBounds_toArray, List.set_cons_zero, List.set_cons_succ]
  refine qb_run (.bool true) (by kernel_rfl) (fun w' hC => by go_simp) ?_
  simp only [Act.put, List.setIfInBounds_toArray, List.set_cons_zero, List.set_cons_succ]
  refine qb_run (.bool true) (by kernel_rfl) (fun w' hC => by go_simp) ?_
  simp only [Act.put, List.setIfInBounds_toArray, List.set_cons_zero, List.set_cons_succ]
  refine qb_mv (.bool true) _ (.inr rfl) (by kernel_rfl) (by rfl) ?_
  simp only [Act.put, List.setIfInBounds_toArray, List.set_cons_zero, List.set_cons_succ]
  refine wpQuiet_nil (fun W12 hb => ?_)
  have t7 := t7.below hb t7.lt
  have t8 := t8.below hb t8.lt
  have t15 := t15.below hb t15.lt
  have t16 := t16.below hb t16.lt
  have bl := bl.trans (Below.mono hb bl.size)
  clear hb
  go_wp2_with fail
  go_ret
  exact ⟨rfl, bl⟩

set_option maxHeartbeats 4000000 in
set_option maxRecDepth 100000 in
theorem Words_gt_same (a b n m x y s p u v q t : Int) (w : World)
    (HAW : ∀ W, Below w.heap.size w W → Calls Tryd.prog 10 #[] W (RetB true W))
    (hn0 : a.tdiv 2 = n) (hm0 : b.tdiv 2 = m)
    (n1 : -1073741824 ≤ n) (n2 : n ≤ 1073741824) (m1 : -1073741824 ≤ m) (m2 : m ≤ 1073741824)
    (ha1 : -2147483648 ≤ a) (ha2 : a ≤ 2147483647) (hb1 : -2147483648 ≤ b) (hb2 : b ≤ 2147483647)
    (p1 : -1152921504606846976 ≤ n * m) (p2 : n * m ≤ 1152921504606846976)
    (hc : ¬ n < m) (hc' : m < n)
    (O1 : ∀ W, Calls Tryd.prog 12 #[.int .i64 n] W (RetI x W))
    (O2 : ∀ W, Calls Tryd.prog 12 #[.int .i64 m] W (RetI y W))
    (A1 : ∀ W, Calls Tryd.prog 13 #[vI x, vI y] W (RetI s W))
    (J1 : ∀ W, Calls Tryd.prog 23 #[vI s] W (RetNB (n + m) true W))
    (M1 : ∀ W, Calls Tryd.prog 14 #[vI x, vI y] W (RetI p W))
    (J2 : ∀ W, Calls Tryd.prog 23 #[vI p] W (RetNB (n * m) true W))
    (C1 : ∀ W, Calls Tryd.prog 20 #[vI x, vI y] W (RetN (1) W))
    (hz : (m == 0) = false) (hz' : ¬ m = 0)
    (HQ : wrap64 (n.tdiv m) = q) (HQ1 : wrap64 (q - 1) = q - 1)
    (hr : (n.tmod m != 0) = true) (hsg : (!(decide (n < 0) == decide (m < 0))) = false)
    (HP : IntKind.i64.wrap ((q) * m) = t) (HT : IntKind.i64.wrap (n - t) = n - t)
    (D1 : ∀ W, Calls Tryd.prog 28 #[vI x, vI y] W (RetIIE u v 0 W))
    (O3 : ∀ W, Calls Tryd.prog 12 #[.int .i64 (q)] W (RetI u W))
    (O4 : ∀ W, Calls Tryd.prog 12 #[.int .i64 (n - t)] W (RetI v W)) :
    Calls Tryd.prog 7 #[.int .i32 a, .int .i32 b] w (RetB true w) := by
  replace HAW := Lib.hid HAW
  replace O1 := Lib.hid O1
  replace O2 := Lib.hid O2
  replace A1 := Lib.hid A1
  replace J1 := Lib.hid J1
  replace M1 := Lib.hid M1
  replace J2 := Lib.hid J2
  replace C1 := Lib.hid C1
  replace D1 := Lib.hid D1
  replace O3 := Lib.hid O3
  replace O4 := Lib.hid O4
  replace HP := Lib.hid HP
  replace HT := Lib.hid HT
  replace HQ := Lib.hid HQ
  replace HQ1 := Lib.hid HQ1
  have HN0 := Lib.hid hn0
  have HM0 := Lib.hid hm0
  clear hn0 hm0
  go_enter Tryd.func7, Tryd.ntmps7
  go_wp2_with fail
  refine (HAW.out w (Below.refl _ _)).mono ?_
  rintro e W1 ⟨rfl, hb⟩
  have bl : Below w.heap.size w _ := hb
  clear hb
  go_wp2_with fail
  rw [HN0.out]
  rw [HM0.out]
  clear HN0 HM0
  refine (O1.out W1).mono ?_
  rintro e W2 ⟨rfl, hb⟩
  have bl := bl.trans (Below.mono hb bl.size)
  clear hb
  go_wp2_with fail
  refine (O2.out W2).mono ?_
  rintro e W3 ⟨rfl, hb⟩
  have bl := bl.trans (Below.mono hb bl.size)
  clear hb
  go_wp2_with fail
  have t7 := (Ob.new (W3) 23 #[.bool (sg x), .string (mg x)]).alloc (.cells #[.bool (sg y), .string (mg y)] 23)
  have t8 := Ob.new ((W3.alloc (.cells #[.bool (sg x), .string (mg x)] 23))) 23 #[.bool (sg y), .string (mg y)]
  have bl := ((bl.alloc (by have := bl.size; (try simp only [World.size_alloc] at *); omega) (.cells #[.bool (sg x), .string (mg x)] 23)).alloc (by have := bl.size; (try simp only [World.size_alloc] at *); omega) (.cells #[.bool (sg y), .string (mg y)] 23))
  try simp only [World.size_alloc] at t7 t8
  generalize hn4 : W3.heap.size = bk4 at t7 t8 ⊢
  clear hn4
  generalize World.alloc (World.alloc W3 _) _ = W4 at t7 t8 bl ⊢
  refine (A1.out W4).mono ?_
  rintro e W5 ⟨rfl, hb⟩
  have t7 := t7.below hb t7.lt
  have t8 := t8.below hb t8.lt
  have bl := bl.trans (Below.mono hb bl.size)
  clear hb
  go_wp2_with fail
  refine (J1.out W5).mono ?_
  rintro e W6 ⟨rfl, hb⟩
  have t7 := t7.below hb t7.lt
  have t8 := t8.below hb t8.lt
  have bl := bl.trans (Below.mono hb bl.size)
  clear hb
  obtain ⟨c0_0, c0_1⟩ := t7.cells2
  obtain ⟨c1_0, c1_1⟩ := t8.cells2
  go_wp2_with fail
  clear c0_0 c0_1 c1_0 c1_1
  refine (M1.out W6).mono ?_
  rintro e W7 ⟨rfl, hb⟩
  have t7 := t7.below hb t7.lt
  have t8 := t8.below hb t8.lt
  have bl := bl.trans (Below.mono hb bl.size)
  clear hb
  go_wp2_with fail
  refine (J2.out W7).mono ?_
  rintro e W8 ⟨rfl, hb⟩
  have t7 := t7.below hb t7.lt
  have t8 := t8.below hb t8.lt
  have bl := bl.trans (Below.mono hb bl.size)
  clear hb
  obtain ⟨c0_0, c0_1⟩ := t7.cells2
  obtain ⟨c1_0, c1_1⟩ := t8.cells2
  go_wp2_with fail
  clear c0_0 c0_1 c1_0 c1_1
  refine (C1.out W8).mono ?_
  rintro e W9 ⟨rfl, hb⟩
  have t7 := t7.below hb t7.lt
  have t8 := t8.below hb t8.lt
  have bl := bl.trans (Below.mono hb bl.size)
  clear hb
  obtain ⟨c0_0, c0_1⟩ := t7.cells2
  obtain ⟨c1_0, c1_1⟩ := t8.cells2
  go_wp2_with fail
  clear c0_0 c0_1 c1_0 c1_1
  rw [HQ.out]
  refine (D1.out W9).mono ?_
  rintro e W10 ⟨rfl, hb⟩
  have t7 := t7.below hb t7.lt
  have t8 := t8.below hb t8.lt
  have bl := bl.trans (Below.mono hb bl.size)
  clear hb
  go_wp2_with fail
  have t7 := ((t7.alloc (.cells #[.bool (sg u), .string (mg u)] 23)).alloc (.cells #[.bool (sg v), .string (mg v)] 23))
  have t8 := ((t8.alloc (.cells #[.bool (sg u), .string (mg u)] 23)).alloc (.cells #[.bool (sg v), .string (mg v)] 23))
  have t15 := (Ob.new (W10) 23 #[.bool (sg u), .string (mg u)]).alloc (.cells #[.bool (sg v), .string (mg v)] 23)
  have t16 := Ob.new ((W10.alloc (.cells #[.bool (sg u), .string (mg u)] 23))) 23 #[.bool (sg v), .string (mg v)]
  have bl := ((bl.alloc (by have := bl.size; (try simp only [World.size_alloc] at *); omega) (.cells #[.bool (sg u), .string (mg u)] 23)).alloc (by have := bl.size; (try simp only [World.size_alloc] at *); omega) (.cells #[.bool (sg v), .string (mg v)] 23))
  try simp only [World.size_alloc] at t7 t8 t15 t16
  generalize hn11 : W10.heap.size = bk11 at t15 t16 ⊢
  clear hn11
  generalize World.alloc (World.alloc W10 _) _ = W11 at t7 t8 t15 t16 bl ⊢
  refine region_qb (by kernel_rfl) (by kernel_rfl) ?_
  refine qb_mv (.int .i64 0) _ (.inl rfl) (by kernel_rfl) (by rfl) ?_
  simp only [Act.put, List.setIfInBounds_toArray, List.set_cons_zero, List.set_cons_succ]
  refine qb_run (.bool true) (by kernel_rfl) (fun w' hC => by go_simp) ?_
  simp only [Act.put, List.setIfInBounds_toArray, List.set_cons_zero, List.set_cons_succ]
  refine qb_mv (.bool true) _ (.inl rfl) (by kernel_rfl) (by rfl) ?_
  simp only [Act.put, List.setIfInBounds_toArray, List.set_cons_zero, List.set_cons_succ]
  refine qb_run (vI u) (by kernel_rfl) (fun w' hC => by obtain ⟨q0, q1⟩ := (t15.below hC t15.lt).cells2; go_simp) ?_
  simp only [Act.put, List.setIfInBounds_toArray, List.set_cons_zero, List.set_cons_succ]
  refine qb_mv (.int .i64 q) _ (.inl rfl) (by kernel_rfl) (by rfl) ?_
  simp only [Act.put, List.setIfInBounds_toArray, List.set_cons_zero, List.set_cons_succ]
  refine qb_call (vI u) 12 #[.int .i64 q] (by kernel_rfl) (fun w' => by go_simp) (fun w' hC => (O3.out w').mono (fun e w'' h => ⟨h.1, hC.step h.2⟩)) ?_
  simp only [Act.put, List.setIfInBounds_toArray, List.set_cons_zero, List.set_cons_succ]
  refine qb_run (.bool true) (by kernel_rfl) (fun w' hC => by go_simp) ?_
  simp only [Act.put, List.setIfInBounds_toArray, List.set_cons_zero, List.set_cons_succ]
  refine qb_run (.bool true) (by kernel_rfl) (fun w' hC => by go_simp) ?_
  simp only [Act.put, List.setIfInBounds_toArray, List.set_cons_zero, List.set_cons_succ]
  refine qb_mv (.bool true) _ (.inl rfl) (by kernel_rfl) (by rfl) ?_
  simp only [Act.put, List.setIfInBounds_toArray, List.set_cons_zero, List.set_cons_succ]
  refine qb_run (vI v) (by kernel_rfl) (fun w' hC => by obtain ⟨q0, q1⟩ := (t16.below hC t16.lt).cells2; go_simp) ?_
  simp only [Act.put, List.setIfInBounds_toArray, List.set_cons_zero, List.set_cons_succ]
  refine qb_mv (.int .i64 n) _ (.inl rfl) (by kernel_rfl) (by rfl) ?_
  simp only [Act.put, List.setIfInBounds_toArray, List.set_cons_zero, List.set_cons_succ]
  refine qb_mv (.int .i64 q) _ (.inl rfl) (by kernel_rfl) (by rfl) ?_
  simp only [Act.put, List.setIfInBounds_toArray, List.set_cons_zero, List.set_cons_succ]
  refine qb_mv (.int .i64 m) _ (.inl rfl) (by kernel_rfl) (by rfl) ?_
  simp only [Act.put, List.setIfInBounds_toArray, List.set_cons_zero, List.set_cons_succ]
  refine qb_run (.int .i64 t) (by kernel_rfl) (fun w' hC => by have h1 := HP.out; go_simp) ?_
  simp only [Act.put, List.setIfInBounds_toArray, List.set_cons_zero, List.set_cons_succ]
  refine qb_run (.int .i64 (n - t)) (by kernel_rfl) (fun w' hC => by have h1 := HT.out; go_simp) ?_
  simp only [Act.put, List.setIfInBounds_toArray, List.set_cons_zero, List.set_cons_succ]
  refine qb_call (vI v) 12 #[.int .i64 (n - t)] (by kernel_rfl) (fun w' => by go_simp) (fun w' hC => (O4.out w').mono (fun e w'' h => ⟨h.1, hC.step h.2⟩)) ?_
  simp only [Act.put, List.setIfInBounds_toArray, List.set_cons_zero, List.set_cons_succ]
  refine qb_run (.bool true) (by kernel_rfl) (fun w' hC => by go_simp) ?_
  simp only [Act.put, List.setIfInBounds_toArray, List.set_cons_zero, List.set_cons_succ]
  refine qb_run (.bool true) (by kernel_rfl) (fun w' hC => by go_simp) ?_
  simp only [Act.put, List.setIfInBounds_toArray, List.set_cons_zero, List.set_cons_succ]
  refine qb_mv (.bool true) _ (.inr rfl) (by kernel_rfl) (by rfl) ?_
  simp only [Act.put, List.setIfInBounds_toArray, List.set_cons_zero, List.set_cons_succ]
  refine wpQuiet_nil (fun W12 hb => ?_)
  have t7 := t7.below hb t7.lt
  have t8 := t8.below hb t8.lt
  have t15 := t15.below hb t15.lt
  have t16 := t16.below hb t16.lt
  have bl := bl.trans (Below.mono hb bl.size)
  clear hb
  go_wp2_with fail
  go_ret
  exact ⟨rfl, bl⟩

end Go.Proofs.YtboolbcckfldaaaDoor
