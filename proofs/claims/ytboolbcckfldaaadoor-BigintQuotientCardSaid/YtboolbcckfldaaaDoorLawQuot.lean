import Derived.Test.YtboolbcckfldaaaDoorLawRoots
import Derived.Test.YtboolbcckfldaaaDoorWalkX
namespace Go.Proofs.YtboolbcckfldaaaDoor
open Go.RowKit
set_option linter.unusedVariables false
set_option linter.unusedSimpArgs false

theorem rdi_pair {w : World} {t : TypeId} {b : Nat} {a c : Bool} {r s : ByteArray} (h : Ob w b t #[.bool a, .string r, .bool c, .string s]) : RdI w (some ⟨b, 0, none⟩) [(a, r), (c, s)] := fun i hi => by
  have : i = 0 ∨ i = 1 := by simp at hi; omega
  rcases this with rfl | rfl
  · exact ⟨b, 0, rfl, h.cell 0 rfl, h.cell 1 rfl⟩
  · exact ⟨b, 0, rfl, h.cell 2 rfl, h.cell 3 rfl⟩

set_option maxHeartbeats 1000000 in
set_option maxRecDepth 100000 in
theorem Quot_no (n m : Bool) (s t : ByteArray) (w : World)
    (HAW : ∀ W, Below w.heap.size w W → Calls Tryd.prog 10 #[] W (RetB true W))
    (HRI : ∀ (A : Option Addr) c W, RdI W A [(n, s), (m, t)] → Calls Tryd.prog 11 #[.slice A 2 c] W (RetB false W)) :
    Calls Tryd.prog 9 #[.agg #[.bool n, .string s], .agg #[.bool m, .string t]] w (RetB true w) := by
  replace HAW := Lib.hid HAW
  replace HRI := Lib.hid HRI
  go_enter Tryd.func9, Tryd.ntmps9
  go_wp2_with fail
  have t2 := (Ob.new (w) 23 #[.bool n, .string s]).alloc (.cells #[.bool m, .string t] 23)
  have t3 := Ob.new ((w.alloc (.cells #[.bool n, .string s] 23))) 23 #[.bool m, .string t]
  have bl := (((Below.refl w.heap.size w).alloc (Nat.le_refl _) (.cells #[.bool n, .string s] 23)).alloc (by simp only [World.size_alloc]; omega) (.cells #[.bool m, .string t] 23))
  try simp only [World.size_alloc] at t2 t3
  generalize World.alloc (World.alloc w _) _ = W1 at t2 t3 bl ⊢
  refine (HAW.out W1 bl).mono ?_
  rintro e W2 ⟨rfl, hb⟩
  have t2 := t2.below hb t2.lt
  have t3 := t3.below hb t3.lt
  have bl := bl.trans (Below.mono hb bl.size)
  clear hb
  obtain ⟨c0_0, c0_1⟩ := t2.cells2
  obtain ⟨c1_0, c1_1⟩ := t3.cells2
  go_wp2_with fail
  clear c0_0 c0_1 c1_0 c1_1
  have t2 := (t2.alloc (.cells #[.bool n, .string s, .bool m, .string t] 23))
  have t3 := (t3.alloc (.cells #[.bool n, .string s, .bool m, .string t] 23))
  have t19 := Ob.new (W2) 23 #[.bool n, .string s, .bool m, .string t]
  have bl := (bl.alloc (by have := bl.size; (try simp only [World.size_alloc] at *); omega) (.cells #[.bool n, .string s, .bool m, .string t] 23))
  try simp only [World.size_alloc] at t2 t3 t19
  generalize hn3 : W2.heap.size = bk3 at t19 ⊢
  clear hn3
  generalize World.alloc W2 _ = W3 at t2 t3 t19 bl ⊢
  refine (HRI.out _ 2 W3 (rdi_pair t19)).mono ?_
  rintro e W4 ⟨rfl, hb⟩
  have t2 := t2.below hb t2.lt
  have t3 := t3.below hb t3.lt
  have t19 := t19.below hb t19.lt
  have bl := bl.trans (Below.mono hb bl.size)
  clear hb
  go_wp2_with fail
  go_ret
  exact ⟨rfl, bl⟩

set_option maxHeartbeats 2000000 in
set_option maxRecDepth 100000 in
theorem Quot_zero (x y q r a : Int) (w : World)
    (HAW : ∀ W, Below w.heap.size w W → Calls Tryd.prog 10 #[] W (RetB true W))
    (HRI : ∀ (A : Option Addr) c W, RdI W A [(sg x, mg x), (sg y, mg y)] → Calls Tryd.prog 11 #[.slice A 2 c] W (RetB true W))
    (D1 : ∀ W, Calls Tryd.prog 28 #[vI x, vI y] W (RetIIE q r 10 W))
    (G1 : ∀ W, Calls Tryd.prog 19 #[vI y] W (RetN 0 W))
    (G2 : ∀ W, Calls Tryd.prog 34 #[vI x, vI y] W (RetI a W))
    (B1 : ∀ W, Calls Tryd.prog 35 #[vI x] W (RetI a W)) :
    Calls Tryd.prog 9 #[vI x, vI y] w (RetB true w) := by
  replace HAW := Lib.hid HAW
  replace HRI := Lib.hid HRI
  replace D1 := Lib.hid D1
  replace G1 := Lib.hid G1
  replace G2 := Lib.hid G2
  replace B1 := Lib.hid B1
  go_enter Tryd.func9, Tryd.ntmps9
  go_wp2_with fail
  have t2 := (Ob.new (w) 23 #[.bool (sg x), .string (mg x)]).alloc (.cells #[.bool (sg y), .string (mg y)] 23)
  have t3 := Ob.new ((w.alloc (.cells #[.bool (sg x), .string (mg x)] 23))) 23 #[.bool (sg y), .string (mg y)]
  have bl := (((Below.refl w.heap.size w).alloc (Nat.le_refl _) (.cells #[.bool (sg x), .string (mg x)] 23)).alloc (by simp only [World.size_alloc]; omega) (.cells #[.bool (sg y), .string (mg y)] 23))
  try simp only [World.size_alloc] at t2 t3
  generalize World.alloc (World.alloc w _) _ = W1 at t2 t3 bl ⊢
  refine (HAW.out W1 bl).mono ?_
  rintro e W2 ⟨rfl, hb⟩
  have t2 := t2.below hb t2.lt
  have t3 := t3.below hb t3.lt
  have bl := bl.trans (Below.mono hb bl.size)
  clear hb
  obtain ⟨c0_0, c0_1⟩ := t2.cells2
  obtain ⟨c1_0, c1_1⟩ := t3.cells2
  go_wp2_with fail
  clear c0_0 c0_1 c1_0 c1_1
  have t2 := (t2.alloc (.cells #[.bool (sg x), .string (mg x), .bool (sg y), .string (mg y)] 23))
  have t3 := (t3.alloc (.cells #[.bool (sg x), .string (mg x), .bool (sg y), .string (mg y)] 23))
  have t19 := Ob.new (W2) 23 #[.bool (sg x), .string (mg x), .bool (sg y), .string (mg y)]
  have bl := (bl.alloc (by have := bl.size; (try simp only [World.size_alloc] at *); omega) (.cells #[.bool (sg x), .string (mg x), .bool (sg y), .string (mg y)] 23))
  try simp only [World.size_alloc] at t2 t3 t19
  generalize hn3 : W2.heap.size = bk3 at t19 ⊢
  clear hn3
  generalize World.alloc W2 _ = W3 at t2 t3 t19 bl ⊢
  refine (HRI.out _ 2 W3 (rdi_pair t19)).mono ?_
  rintro e W4 ⟨rfl, hb⟩
  have t2 := t2.below hb t2.lt
  have t3 := t3.below hb t3.lt
  have t19 := t19.below hb t19.lt
  have bl := bl.trans (Below.mono hb bl.size)
  clear hb
  obtain ⟨c0_0, c0_1⟩ := t2.cells2
  obtain ⟨c1_0, c1_1⟩ := t3.cells2
  go_wp2_with fail
  clear c0_0 c0_1 c1_0 c1_1
  refine (D1.out W4).mono ?_
  rintro e W5 ⟨rfl, hb⟩
  have t2 := t2.below hb t2.lt
  have t3 := t3.below hb t3.lt
  have t19 := t19.below hb t19.lt
  have bl := bl.trans (Below.mono hb bl.size)
  clear hb
  obtain ⟨c0_0, c0_1⟩ := ((t3.alloc (.cells #[.bool (sg q), .string (mg q)] 23)).alloc (.cells #[.bool (sg r), .string (mg r)] 23)).cells2
  go_wp2_with fail
  clear c0_0 c0_1
  have t2 := ((t2.alloc (.cells #[.bool (sg q), .string (mg q)] 23)).alloc (.cells #[.bool (sg r), .string (mg r)] 23))
  have t3 := ((t3.alloc (.cells #[.bool (sg q), .string (mg q)] 23)).alloc (.cells #[.bool (sg r), .string (mg r)] 23))
  have t19 := ((t19.alloc (.cells #[.bool (sg q), .string (mg q)] 23)).alloc (.cells #[.bool (sg r), .string (mg r)] 23))
  have t5 := (Ob.new (W5) 23 #[.bool (sg q), .string (mg q)]).alloc (.cells #[.bool (sg r), .string (mg r)] 23)
  have t6 := Ob.new ((W5.alloc (.cells #[.bool (sg q), .string (mg q)] 23))) 23 #[.bool (sg r), .string (mg r)]
  have bl := ((bl.alloc (by have := bl.size; (try simp only [World.size_alloc] at *); omega) (.cells #[.bool (sg q), .string (mg q)] 23)).alloc (by have := bl.size; (try simp only [World.size_alloc] at *); omega) (.cells #[.bool (sg r), .string (mg r)] 23))
  try simp only [World.size_alloc] at t2 t3 t19 t5 t6
  generalize hn6 : W5.heap.size = bk6 at t5 t6 ⊢
  clear hn6
  generalize World.alloc (World.alloc W5 _) _ = W6 at t2 t3 t19 t5 t6 bl ⊢
  refine (G1.out W6).mono ?_
  rintro e W7 ⟨rfl, hb⟩
  have t2 := t2.below hb t2.lt
  have t3 := t3.below hb t3.lt
  have t19 := t19.below hb t19.lt
  have t5 := t5.below hb t5.lt
  have t6 := t6.below hb t6.lt
  have bl := bl.trans (Below.mono hb bl.size)
  clear hb
  go_wp2_with fail
  refine region_qb (by kernel_rfl) (by kernel_rfl) ?_
  refine qb_mv (.int .i64 10) _ (.inl rfl) (by kernel_rfl) (by rfl) ?_
  simp only [Act.put, List.setIfInBounds_toArray, List.set_cons_zero, List.set_cons_succ]
  refine qb_run (.bool true) (by kernel_rfl) (fun w' hC => by go_simp) ?_
  simp only [Act.put, List.setIfInBounds_toArray, List.set_cons_zero, List.set_cons_succ]
  refine qb_mv (.bool true) _ (.inl rfl) (by kernel_rfl) (by rfl) ?_
  simp only [Act.put, List.setIfInBounds_toArray, List.set_cons_zero, List.set_cons_succ]
  refine qb_run (vI x) (by kernel_rfl) (fun w' hC => by obtain ⟨q0, q1⟩ := (t2.below hC t2.lt).cells2; go_simp) ?_
  simp only [Act.put, List.setIfInBounds_toArray, List.set_cons_zero, List.set_cons_succ]
  refine qb_run (vI y) (by kernel_rfl) (fun w' hC => by obtain ⟨q0, q1⟩ := (t3.below hC t3.lt).cells2; go_simp) ?_
  simp only [Act.put, List.setIfInBounds_toArray, List.set_cons_zero, List.set_cons_succ]
  refine qb_call (vI a) 34 #[vI x, vI y] (by kernel_rfl) (fun w' => by go_simp) (fun w' hC => (G2.out w').mono (fun e w'' h => ⟨h.1, hC.step h.2⟩)) ?_
  simp only [Act.put, List.setIfInBounds_toArray, List.set_cons_zero, List.set_cons_succ]
  refine qb_run (vI x) (by kernel_rfl) (fun w' hC => by obtain ⟨q0, q1⟩ := (t2.below hC t2.lt).cells2; go_simp) ?_
  simp only [Act.put, List.setIfInBounds_toArray, List.set_cons_zero, List.set_cons_succ]
  refine qb_call (vI a) 35 #[vI x] (by kernel_rfl) (fun w' => by go_simp) (fun w' hC => (B1.out w').mono (fun e w'' h => ⟨h.1, hC.step h.2⟩)) ?_
  simp only [Act.put, List.setIfInBounds_toArray, List.set_cons_zero, List.set_cons_succ]
  refine qb_run (.bool true) (by kernel_rfl) (fun w' hC => by go_simp) ?_
  simp only [Act.put, List.setIfInBounds_toArray, List.set_cons_zero, List.set_cons_succ]
  refine qb_run (.bool true) (by kernel_rfl) (fun w' hC => by go_simp) ?_
  simp only [Act.put, List.setIfInBounds_toArray, List.set_cons_zero, List.set_cons_succ]
  refine qb_mv (.bool true) _ (.inr rfl) (by kernel_rfl) (by rfl) ?_
  simp only [Act.put, List.setIfInBounds_toArray, List.set_cons_zero, List.set_cons_succ]
  refine wpQuiet_nil (fun W8 hb => ?_)
  have t2 := t2.below hb t2.lt
  have t3 := t3.below hb t3.lt
  have t19 := t19.below hb t19.lt
  have t5 := t5.below hb t5.lt
  have t6 := t6.below hb t6.lt
  have bl := bl.trans (Below.mono hb bl.size)
  clear hb
  go_wp2_with fail
  go_ret
  exact ⟨rfl, bl⟩

set_option maxHeartbeats 4000000 in
set_option maxRecDepth 100000 in
theorem Quot_exact (x y q r qy ar ay g x' y' e1 e2 one : Int) (sb cn : Int) (w : World) (hsb : (sb == 0) = false) (hcn : cn < 0)
    (HAW : ∀ W, Below w.heap.size w W → Calls Tryd.prog 10 #[] W (RetB true W))
    (HRI : ∀ (A : Option Addr) c W, RdI W A [(sg x, mg x), (sg y, mg y)] → Calls Tryd.prog 11 #[.slice A 2 c] W (RetB true W))
    (D1 : ∀ W, Calls Tryd.prog 28 #[vI x, vI y] W (RetIIE q r 0 W))
    (G1 : ∀ W, Calls Tryd.prog 19 #[vI y] W (RetN sb W))
    (M1 : ∀ W, Calls Tryd.prog 14 #[vI q, vI y] W (RetI qy W))
    (A1 : ∀ W, Calls Tryd.prog 13 #[vI qy, vI r] W (RetI x W))
    (B1 : ∀ W, Calls Tryd.prog 35 #[vI r] W (RetI ar W))
    (B2 : ∀ W, Calls Tryd.prog 35 #[vI y] W (RetI ay W))
    (C1 : ∀ W, Calls Tryd.prog 20 #[vI ar, vI ay] W (RetN cn W))
    (G2 : ∀ W, Calls Tryd.prog 19 #[vI r] W (RetN 0 W))
    (K1 : ∀ W, Calls Tryd.prog 34 #[vI x, vI y] W (RetI g W))
    (D2 : ∀ W, Calls Tryd.prog 28 #[vI x, vI g] W (RetIIE x' e1 0 W))
    (D3 : ∀ W, Calls Tryd.prog 28 #[vI y, vI g] W (RetIIE y' e2 0 W))
    (G3 : ∀ W, Calls Tryd.prog 19 #[vI g] W (RetN 1 W))
    (G4 : ∀ W, Calls Tryd.prog 19 #[vI e1] W (RetN 0 W))
    (G5 : ∀ W, Calls Tryd.prog 19 #[vI e2] W (RetN 0 W))
    (K2 : ∀ W, Calls Tryd.prog 34 #[vI x', vI y'] W (RetI one W))
    (O1 : ∀ W, Calls Tryd.prog 12 #[.int .i64 1] W (RetI one W))
    (K3 : ∀ W, Calls Tryd.prog 34 #[vI y, vI x] W (RetI g W)) :
    Calls Tryd.prog 9 #[vI x, vI y] w (RetB true w) := by
  replace HAW := Lib.hid HAW
  replace HRI := Lib.hid HRI
  replace D1 := Lib.hid D1
  replace G1 := Lib.hid G1
  replace M1 := Lib.hid M1
  replace A1 := Lib.hid A1
  replace B1 := Lib.hid B1
  replace B2 := Lib.hid B2
  replace C1 := Lib.hid C1
  replace G2 := Lib.hid G2
  replace K1 := Lib.hid K1
  replace D2 := Lib.hid D2
  replace D3 := Lib.hid D3
  replace G3 := Lib.hid G3
  replace G4 := Lib.hid G4
  replace G5 := Lib.hid G5
  replace K2 := Lib.hid K2
  replace O1 := Lib.hid O1
  replace K3 := Lib.hid K3
  go_enter Tryd.func9, Tryd.ntmps9
  go_wp2_with fail
  have t2 := (Ob.new (w) 23 #[.bool (sg x), .string (mg x)]).alloc (.cells #[.bool (sg y), .string (mg y)] 23)
  have t3 := Ob.new ((w.alloc (.cells #[.bool (sg x), .string (mg x)] 23))) 23 #[.bool (sg y), .string (mg y)]
  have bl := (((Below.refl w.heap.size w).alloc (Nat.le_refl _) (.cells #[.bool (sg x), .string (mg x)] 23)).alloc (by simp only [World.size_alloc]; omega) (.cells #[.bool (sg y), .string (mg y)] 23))
  try simp only [World.size_alloc] at t2 t3
  generalize World.alloc (World.alloc w _) _ = W1 at t2 t3 bl ⊢
  refine (HAW.out W1 bl).mono ?_
  rintro e W2 ⟨rfl, hb⟩
  have t2 := t2.below hb t2.lt
  have t3 := t3.below hb t3.lt
  have bl := bl.trans (Below.mono hb bl.size)
  clear hb
  obtain ⟨c0_0, c0_1⟩ := t2.cells2
  obtain ⟨c1_0, c1_1⟩ := t3.cells2
  go_wp2_with fail
  clear c0_0 c0_1 c1_0 c1_1
  have t2 := (t2.alloc (.cells #[.bool (sg x), .string (mg x), .bool (sg y), .string (mg y)] 23))
  have t3 := (t3.alloc (.cells #[.bool (sg x), .string (mg x), .bool (sg y), .string (mg y)] 23))
  have t19 := Ob.new (W2) 23 #[.bool (sg x), .string (mg x), .bool (sg y), .string (mg y)]
  have bl := (bl.alloc (by have := bl.size; (try simp only [World.size_alloc] at *); omega) (.cells #[.bool (sg x), .string (mg x), .bool (sg y), .string (mg y)] 23))
  try simp only [World.size_alloc] at t2 t3 t19
  generalize hn3 : W2.heap.size = bk3 at t19 ⊢
  clear hn3
  generalize World.alloc W2 _ = W3 at t2 t3 t19 bl ⊢
  refine (HRI.out _ 2 W3 (rdi_pair t19)).mono ?_
  rintro e W4 ⟨rfl, hb⟩
  have t2 := t2.below hb t2.lt
  have t3 := t3.below hb t3.lt
  have t19 := t19.below hb t19.lt
  have bl := bl.trans (Below.mono hb bl.size)
  clear hb
  obtain ⟨c0_0, c0_1⟩ := t2.cells2
  obtain ⟨c1_0, c1_1⟩ := t3.cells2
  go_wp2_with fail
  clear c0_0 c0_1 c1_0 c1_1
  refine (D1.out W4).mono ?_
  rintro e W5 ⟨rfl, hb⟩
  have t2 := t2.below hb t2.lt
  have t3 := t3.below hb t3.lt
  have t19 := t19.below hb t19.lt
  have bl := bl.trans (Below.mono hb bl.size)
  clear hb
  obtain ⟨c0_0, c0_1⟩ := ((t3.alloc (.cells #[.bool (sg q), .string (mg q)] 23)).alloc (.cells #[.bool (sg r), .string (mg r)] 23)).cells2
  go_wp2_with fail
  clear c0_0 c0_1
  have t2 := ((t2.alloc (.cells #[.bool (sg q), .string (mg q)] 23)).alloc (.cells #[.bool (sg r), .string (mg r)] 23))
  have t3 := ((t3.alloc (.cells #[.bool (sg q), .string (mg q)] 23)).alloc (.cells #[.bool (sg r), .string (mg r)] 23))
  have t19 := ((t19.alloc (.cells #[.bool (sg q), .string (mg q)] 23)).alloc (.cells #[.bool (sg r), .string (mg r)] 23))
  have t5 := (Ob.new (W5) 23 #[.bool (sg q), .string (mg q)]).alloc (.cells #[.bool (sg r), .string (mg r)] 23)
  have t6 := Ob.new ((W5.alloc (.cells #[.bool (sg q), .string (mg q)] 23))) 23 #[.bool (sg r), .string (mg r)]
  have bl := ((bl.alloc (by have := bl.size; (try simp only [World.size_alloc] at *); omega) (.cells #[.bool (sg q), .string (mg q)] 23)).alloc (by have := bl.size; (try simp only [World.size_alloc] at *); omega) (.cells #[.bool (sg r), .string (mg r)] 23))
  try simp only [World.size_alloc] at t2 t3 t19 t5 t6
  generalize hn6 : W5.heap.size = bk6 at t5 t6 ⊢
  clear hn6
  generalize World.alloc (World.alloc W5 _) _ = W6 at t2 t3 t19 t5 t6 bl ⊢
  refine (G1.out W6).mono ?_
  rintro e W7 ⟨rfl, hb⟩
  have t2 := t2.below hb t2.lt
  have t3 := t3.below hb t3.lt
  have t19 := t19.below hb t19.lt
  have t5 := t5.below hb t5.lt
  have t6 := t6.below hb t6.lt
  have bl := bl.trans (Below.mono hb bl.size)
  clear hb
  go_wp2_with fail
  refine region_qb (by kernel_rfl) (by kernel_rfl) ?_
  refine qb_mv (.int .i64 0) _ (.inl rfl) (by kernel_rfl) (by rfl) ?_
  simp only [Act.put, List.setIfInBounds_toArray, List.set_cons_zero, List.set_cons_succ]
  refine qb_run (.bool false) (by kernel_rfl) (fun w' hC => by go_simp) ?_
  simp only [Act.put, List.setIfInBounds_toArray, List.set_cons_zero, List.set_cons_succ]
  refine qb_mv (.bool false) _ (.inl rfl) (by kernel_rfl) (by rfl) ?_
  simp only [Act.put, List.setIfInBounds_toArray, List.set_cons_zero, List.set_cons_succ]
  refine qb_run (vI q) (by kernel_rfl) (fun w' hC => by obtain ⟨q0, q1⟩ := (t5.below hC t5.lt).cells2; go_simp) ?_
  simp only [Act.put, List.setIfInBounds_toArray, List.set_cons_zero, List.set_cons_succ]
  refine qb_run (vI y) (by kernel_rfl) (fun w' hC => by obtain ⟨q0, q1⟩ := (t3.below hC t3.lt).cells2; go_simp) ?_
  simp only [Act.put, List.setIfInBounds_toArray, List.set_cons_zero, List.set_cons_succ]
  refine qb_call (vI qy) 14 #[vI q, vI y] (by kernel_rfl) (fun w' => by go_simp) (fun w' hC => (M1.out w').mono (fun e w'' h => ⟨h.1, hC.step h.2⟩)) ?_
  simp only [Act.put, List.setIfInBounds_toArray, List.set_cons_zero, List.set_cons_succ]
  refine qb_run (vI r) (by kernel_rfl) (fun w' hC => by obtain ⟨q0, q1⟩ := (t6.below hC t6.lt).cells2; go_simp) ?_
  simp only [Act.put, List.setIfInBounds_toArray, List.set_cons_zero, List.set_cons_succ]
  refine qb_call (vI x) 13 #[vI qy, vI r] (by kernel_rfl) (fun w' => by go_simp) (fun w' hC => (A1.out w').mono (fun e w'' h => ⟨h.1, hC.step h.2⟩)) ?_
  simp only [Act.put, List.setIfInBounds_toArray, List.set_cons_zero, List.set_cons_succ]
  refine qb_run (vI x) (by kernel_rfl) (fun w' hC => by obtain ⟨q0, q1⟩ := (t2.below hC t2.lt).cells2; go_simp) ?_
  simp only [Act.put, List.setIfInBounds_toArray, List.set_cons_zero, List.set_cons_succ]
  refine qb_run (.bool false) (by kernel_rfl) (fun w' hC => by go_simp) ?_
  simp only [Act.put, List.setIfInBounds_toArray, List.set_cons_zero, List.set_cons_succ]
  refine qb_run (.bool false) (by kernel_rfl) (fun w' hC => by go_simp) ?_
  simp only [Act.put, List.setIfInBounds_toArray, List.set_cons_zero, List.set_cons_succ]
  refine qb_mv (.bool false) _ (.inl rfl) (by kernel_rfl) (by rfl) ?_
  simp only [Act.put, List.setIfInBounds_toArray, List.set_cons_zero, List.set_cons_succ]
  refine qb_run (vI r) (by kernel_rfl) (fun w' hC => by obtain ⟨q0, q1⟩ := (t6.below hC t6.lt).cells2; go_simp) ?_
  simp only [Act.put, List.setIfInBounds_toArray, List.set_cons_zero, List.set_cons_succ]
  refine qb_call (vI ar) 35 #[vI r] (by kernel_rfl) (fun w' => by go_simp) (fun w' hC => (B1.out w').mono (fun e w'' h => ⟨h.1, hC.step h.2⟩)) ?_
  simp only [Act.put, List.setIfInBounds_toArray, List.set_cons_zero, List.set_cons_succ]
  refine qb_run (vI y) (by kernel_rfl) (fun w' hC => by obtain ⟨q0, q1⟩ := (t3.below hC t3.lt).cells2; go_simp) ?_
  simp only [Act.put, List.setIfInBounds_toArray, List.set_cons_zero, List.set_cons_succ]
  refine qb_call (vI ay) 35 #[vI y] (by kernel_rfl) (fun w' => by go_simp) (fun w' hC => (B2.out w').mono (fun e w'' h => ⟨h.1, hC.step h.2⟩)) ?_
  simp only [Act.put, List.setIfInBounds_toArray, List.set_cons_zero, List.set_cons_succ]
  refine qb_call (.int .i64 cn) 20 #[vI ar, vI ay] (by kernel_rfl) (fun w' => by go_simp) (fun w' hC => (C1.out w').mono (fun e w'' h => ⟨h.1, hC.step h.2⟩)) ?_
  simp only [Act.put, List.setIfInBounds_toArray, List.set_cons_zero, List.set_cons_succ]
  refine qb_run (.bool false) (by kernel_rfl) (fun w' hC => by go_simp) ?_
  simp only [Act.put, List.setIfInBounds_toArray, List.set_cons_zero, List.set_cons_succ]
  refine qb_run (.bool false) (by kernel_rfl) (fun w' hC => by go_simp) ?_
  simp only [Act.put, List.setIfInBounds_toArray, List.set_cons_zero, List.set_cons_succ]
  refine qb_mv (.bool false) _ (.inl rfl) (by kernel_rfl) (by rfl) ?_
  simp only [Act.put, List.setIfInBounds_toArray, List.set_cons_zero, List.set_cons_succ]
  refine qb_run (vI r) (by kernel_rfl) (fun w' hC => by obtain ⟨q0, q1⟩ := (t6.below hC t6.lt).cells2; go_simp) ?_
  simp only [Act.put, List.setIfInBounds_toArray, List.set_cons_zero, List.set_cons_succ]
  refine qb_call (.int .i64 0) 19 #[vI r] (by kernel_rfl) (fun w' => by go_simp) (fun w' hC => (G2.out w').mono (fun e w'' h => ⟨h.1, hC.step h.2⟩)) ?_
  simp only [Act.put, List.setIfInBounds_toArray, List.set_cons_zero, List.set_cons_succ]
  refine qb_run (.bool false) (by kernel_rfl) (fun w' hC => by go_simp) ?_
  simp only [Act.put, List.setIfInBounds_toArray, List.set_cons_zero, List.set_cons_succ]
  refine qb_mv (.bool false) _ (.inl rfl) (by kernel_rfl) (by rfl) ?_
  simp only [Act.put, List.setIfInBounds_toArray, List.set_cons_zero, List.set_cons_succ]
  refine qb_skip (by kernel_rfl) ?_
  simp only [Act.put, List.setIfInBounds_toArray, List.set_cons_zero, List.set_cons_succ]
  refine qb_skip (by kernel_rfl) ?_
  simp only [Act.put, List.setIfInBounds_toArray, List.set_cons_zero, List.set_cons_succ]
  refine qb_skip (by kernel_rfl) ?_
  simp only [Act.put, List.setIfInBounds_toArray, List.set_cons_zero, List.set_cons_succ]
  refine qb_skip (by kernel_rfl) ?_
  simp only [Act.put, List.setIfInBounds_toArray, List.set_cons_zero, List.set_cons_succ]
  refine qb_skip (by kernel_rfl) ?_
  simp only [Act.put, List.setIfInBounds_toArray, List.set_cons_zero, List.set_cons_succ]
  refine qb_run (.bool false) (by kernel_rfl) (fun w' hC => by go_simp) ?_
  simp only [Act.put, List.setIfInBounds_toArray, List.set_cons_zero, List.set_cons_succ]
  refine qb_run (.bool false) (by kernel_rfl) (fun w' hC => by go_simp) ?_
  simp only [Act.put, List.setIfInBounds_toArray, List.set_cons_zero, List.set_cons_succ]
  refine wpQuiet_nil (fun W8 hb => ?_)
  have t2 := t2.below hb t2.lt
  have t3 := t3.below hb t3.lt
  have t19 := t19.below hb t19.lt
  have t5 := t5.below hb t5.lt
  have t6 := t6.below hb t6.lt
  have bl := bl.trans (Below.mono hb bl.size)
  clear hb
  obtain ⟨c0_0, c0_1⟩ := t2.cells2
  obtain ⟨c1_0, c1_1⟩ := t3.cells2
  go_wp2_with fail
  clear c0_0 c0_1 c1_0 c1_1
  refine (K1.out W8).mono ?_
  rintro e W9 ⟨rfl, hb⟩
  have t2 := t2.below hb t2.lt
  have t3 := t3.below hb t3.lt
  have t19 := t19.below hb t19.lt
  have t5 := t5.below hb t5.lt
  have t6 := t6.below hb t6.lt
  have bl := bl.trans (Below.mono hb bl.size)
  clear hb
  obtain ⟨c0_0, c0_1⟩ := (t2.alloc (.cells #[.bool (sg g), .string (mg g)] 23)).cells2
  go_wp2_with fail
  clear c0_0 c0_1
  have t2 := (t2.alloc (.cells #[.bool (sg g), .string (mg g)] 23))
  have t3 := (t3.alloc (.cells #[.bool (sg g), .string (mg g)] 23))
  have t19 := (t19.alloc (.cells #[.bool (sg g), .string (mg g)] 23))
  have t5 := (t5.alloc (.cells #[.bool (sg g), .string (mg g)] 23))
  have t6 := (t6.alloc (.cells #[.bool (sg g), .string (mg g)] 23))
  have t8 := Ob.new (W9) 23 #[.bool (sg g), .string (mg g)]
  have bl := (bl.alloc (by have := bl.size; (try simp only [World.size_alloc] at *); omega) (.cells #[.bool (sg g), .string (mg g)] 23))
  try simp only [World.size_alloc] at t2 t3 t19 t5 t6 t8
  generalize hn10 : W9.heap.size = bk10 at t8 ⊢
  clear hn10
  generalize World.alloc W9 _ = W10 at t2 t3 t19 t5 t6 t8 bl ⊢
  refine (D2.out W10).mono ?_
  rintro e W11 ⟨rfl, hb⟩
  have t2 := t2.below hb t2.lt
  have t3 := t3.below hb t3.lt
  have t19 := t19.below hb t19.lt
  have t5 := t5.below hb t5.lt
  have t6 := t6.below hb t6.lt
  have t8 := t8.below hb t8.lt
  have bl := bl.trans (Below.mono hb bl.size)
  clear hb
  obtain ⟨c0_0, c0_1⟩ := ((t3.alloc (.cells #[.bool (sg x'), .string (mg x')] 23)).alloc (.cells #[.bool (sg e1), .string (mg e1)] 23)).cells2
  obtain ⟨c1_0, c1_1⟩ := ((t8.alloc (.cells #[.bool (sg x'), .string (mg x')] 23)).alloc (.cells #[.bool (sg e1), .string (mg e1)] 23)).cells2
  go_wp2_with fail
  clear c0_0 c0_1 c1_0 c1_1
  have t2 := ((t2.alloc (.cells #[.bool (sg x'), .string (mg x')] 23)).alloc (.cells #[.bool (sg e1), .string (mg e1)] 23))
  have t3 := ((t3.alloc (.cells #[.bool (sg x'), .string (mg x')] 23)).alloc (.cells #[.bool (sg e1), .string (mg e1)] 23))
  have t19 := ((t19.alloc (.cells #[.bool (sg x'), .string (mg x')] 23)).alloc (.cells #[.bool (sg e1), .string (mg e1)] 23))
  have t5 := ((t5.alloc (.cells #[.bool (sg x'), .string (mg x')] 23)).alloc (.cells #[.bool (sg e1), .string (mg e1)] 23))
  have t6 := ((t6.alloc (.cells #[.bool (sg x'), .string (mg x')] 23)).alloc (.cells #[.bool (sg e1), .string (mg e1)] 23))
  have t8 := ((t8.alloc (.cells #[.bool (sg x'), .string (mg x')] 23)).alloc (.cells #[.bool (sg e1), .string (mg e1)] 23))
  have t9 := (Ob.new (W11) 23 #[.bool (sg x'), .string (mg x')]).alloc (.cells #[.bool (sg e1), .string (mg e1)] 23)
  have t10 := Ob.new ((W11.alloc (.cells #[.bool (sg x'), .string (mg x')] 23))) 23 #[.bool (sg e1), .string (mg e1)]
  have bl := ((bl.alloc (by have := bl.size; (try simp only [World.size_alloc] at *); omega) (.cells #[.bool (sg x'), .string (mg x')] 23)).alloc (by have := bl.size; (try simp only [World.size_alloc] at *); omega) (.cells #[.bool (sg e1), .string (mg e1)] 23))
  try simp only [World.size_alloc] at t2 t3 t19 t5 t6 t8 t9 t10
  generalize hn12 : W11.heap.size = bk12 at t9 t10 ⊢
  clear hn12
  generalize World.alloc (World.alloc W11 _) _ = W12 at t2 t3 t19 t5 t6 t8 t9 t10 bl ⊢
  refine (D3.out W12).mono ?_
  rintro e W13 ⟨rfl, hb⟩
  have t2 := t2.below hb t2.lt
  have t3 := t3.below hb t3.lt
  have t19 := t19.below hb t19.lt
  have t5 := t5.below hb t5.lt
  have t6 := t6.below hb t6.lt
  have t8 := t8.below hb t8.lt
  have t9 := t9.below hb t9.lt
  have t10 := t10.below hb t10.lt
  have bl := bl.trans (Below.mono hb bl.size)
  clear hb
  go_wp2_with fail
  have t2 := ((t2.alloc (.cells #[.bool (sg y'), .string (mg y')] 23)).alloc (.cells #[.bool (sg e2), .string (mg e2)] 23))
  have t3 := ((t3.alloc (.cells #[.bool (sg y'), .string (mg y')] 23)).alloc (.cells #[.bool (sg e2), .string (mg e2)] 23))
  have t19 := ((t19.alloc (.cells #[.bool (sg y'), .string (mg y')] 23)).alloc (.cells #[.bool (sg e2), .string (mg e2)] 23))
  have t5 := ((t5.alloc (.cells #[.bool (sg y'), .string (mg y')] 23)).alloc (.cells #[.bool (sg e2), .string (mg e2)] 23))
  have t6 := ((t6.alloc (.cells #[.bool (sg y'), .string (mg y')] 23)).alloc (.cells #[.bool (sg e2), .string (mg e2)] 23))
  have t8 := ((t8.alloc (.cells #[.bool (sg y'), .string (mg y')] 23)).alloc (.cells #[.bool (sg e2), .string (mg e2)] 23))
  have t9 := ((t9.alloc (.cells #[.bool (sg y'), .string (mg y')] 23)).alloc (.cells #[.bool (sg e2), .string (mg e2)] 23))
  have t10 := ((t10.alloc (.cells #[.bool (sg y'), .string (mg y')] 23)).alloc (.cells #[.bool (sg e2), .string (mg e2)] 23))
  have t12 := (Ob.new (W13) 23 #[.bool (sg y'), .string (mg y')]).alloc (.cells #[.bool (sg e2), .string (mg e2)] 23)
  have t13 := Ob.new ((W13.alloc (.cells #[.bool (sg y'), .string (mg y')] 23))) 23 #[.bool (sg e2), .string (mg e2)]
  have bl := ((bl.alloc (by have := bl.size; (try simp only [World.size_alloc] at *); omega) (.cells #[.bool (sg y'), .string (mg y')] 23)).alloc (by have := bl.size; (try simp only [World.size_alloc] at *); omega) (.cells #[.bool (sg e2), .string (mg e2)] 23))
  try simp only [World.size_alloc] at t2 t3 t19 t5 t6 t8 t9 t10 t12 t13
  generalize hn14 : W13.heap.size = bk14 at t12 t13 ⊢
  clear hn14
  generalize World.alloc (World.alloc W13 _) _ = W14 at t2 t3 t19 t5 t6 t8 t9 t10 t12 t13 bl ⊢
  refine region_qb (by kernel_rfl) (by kernel_rfl) ?_
  refine qb_mv (.int .i64 0) _ (.inl rfl) (by kernel_rfl) (by rfl) ?_
  simp only [Act.put, List.setIfInBounds_toArray, List.set_cons_zero, List.set_cons_succ]
  refine qb_run (.bool true) (by kernel_rfl) (fun w' hC => by go_simp) ?_
  simp only [Act.put, List.setIfInBounds_toArray, List.set_cons_zero, List.set_cons_succ]
  refine qb_mv (.bool true) _ (.inl rfl) (by kernel_rfl) (by rfl) ?_
  simp only [Act.put, List.setIfInBounds_toArray, List.set_cons_zero, List.set_cons_succ]
  refine qb_mv (.int .i64 0) _ (.inl rfl) (by kernel_rfl) (by rfl) ?_
  simp only [Act.put, List.setIfInBounds_toArray, List.set_cons_zero, List.set_cons_succ]
  refine qb_run (.bool true) (by kernel_rfl) (fun w' hC => by go_simp) ?_
  simp only [Act.put, List.setIfInBounds_toArray, List.set_cons_zero, List.set_cons_succ]
  refine qb_run (.bool true) (by kernel_rfl) (fun w' hC => by go_simp) ?_
  simp only [Act.put, List.setIfInBounds_toArray, List.set_cons_zero, List.set_cons_succ]
  refine qb_mv (.bool true) _ (.inl rfl) (by kernel_rfl) (by rfl) ?_
  simp only [Act.put, List.setIfInBounds_toArray, List.set_cons_zero, List.set_cons_succ]
  refine qb_run (vI g) (by kernel_rfl) (fun w' hC => by obtain ⟨q0, q1⟩ := (t8.below hC t8.lt).cells2; go_simp) ?_
  simp only [Act.put, List.setIfInBounds_toArray, List.set_cons_zero, List.set_cons_succ]
  refine qb_call (.int .i64 1) 19 #[vI g] (by kernel_rfl) (fun w' => by go_simp) (fun w' hC => (G3.out w').mono (fun e w'' h => ⟨h.1, hC.step h.2⟩)) ?_
  simp only [Act.put, List.setIfInBounds_toArray, List.set_cons_zero, List.set_cons_succ]
  refine qb_run (.bool true) (by kernel_rfl) (fun w' hC => by go_simp) ?_
  simp only [Act.put, List.setIfInBounds_toArray, List.set_cons_zero, List.set_cons_succ]
  refine qb_run (.bool true) (by kernel_rfl) (fun w' hC => by go_simp) ?_
  simp only [Act.put, List.setIfInBounds_toArray, List.set_cons_zero, List.set_cons_succ]
  refine qb_mv (.bool true) _ (.inl rfl) (by kernel_rfl) (by rfl) ?_
  simp only [Act.put, List.setIfInBounds_toArray, List.set_cons_zero, List.set_cons_succ]
  refine qb_run (vI e1) (by kernel_rfl) (fun w' hC => by obtain ⟨q0, q1⟩ := (t10.below hC t10.lt).cells2; go_simp) ?_
  simp only [Act.put, List.setIfInBounds_toArray, List.set_cons_zero, List.set_cons_succ]
  refine qb_call (.int .i64 0) 19 #[vI e1] (by kernel_rfl) (fun w' => by go_simp) (fun w' hC => (G4.out w').mono (fun e w'' h => ⟨h.1, hC.step h.2⟩)) ?_
  simp only [Act.put, List.setIfInBounds_toArray, List.set_cons_zero, List.set_cons_succ]
  refine qb_run (.bool true) (by kernel_rfl) (fun w' hC => by go_simp) ?_
  simp only [Act.put, List.setIfInBounds_toArray, List.set_cons_zero, List.set_cons_succ]
  refine qb_run (.bool true) (by kernel_rfl) (fun w' hC => by go_simp) ?_
  simp only [Act.put, List.setIfInBounds_toArray, List.set_cons_zero, List.set_cons_succ]
  refine qb_mv (.bool true) _ (.inl rfl) (by kernel_rfl) (by rfl) ?_
  simp only [Act.put, List.setIfInBounds_toArray, List.set_cons_zero, List.set_cons_succ]
  refine qb_run (vI e2) (by kernel_rfl) (fun w' hC => by obtain ⟨q0, q1⟩ := (t13.below hC t13.lt).cells2; go_simp) ?_
  simp only [Act.put, List.setIfInBounds_toArray, List.set_cons_zero, List.set_cons_succ]
  refine qb_call (.int .i64 0) 19 #[vI e2] (by kernel_rfl) (fun w' => by go_simp) (fun w' hC => (G5.out w').mono (fun e w'' h => ⟨h.1, hC.step h.2⟩)) ?_
  simp only [Act.put, List.setIfInBounds_toArray, List.set_cons_zero, List.set_cons_succ]
  refine qb_run (.bool true) (by kernel_rfl) (fun w' hC => by go_simp) ?_
  simp only [Act.put, List.setIfInBounds_toArray, List.set_cons_zero, List.set_cons_succ]
  refine qb_run (.bool true) (by kernel_rfl) (fun w' hC => by go_simp) ?_
  simp only [Act.put, List.setIfInBounds_toArray, List.set_cons_zero, List.set_cons_succ]
  refine qb_mv (.bool true) _ (.inl rfl) (by kernel_rfl) (by rfl) ?_
  simp only [Act.put, List.setIfInBounds_toArray, List.set_cons_zero, List.set_cons_succ]
  refine qb_run (vI x') (by kernel_rfl) (fun w' hC => by obtain ⟨q0, q1⟩ := (t9.below hC t9.lt).cells2; go_simp) ?_
  simp only [Act.put, List.setIfInBounds_toArray, List.set_cons_zero, List.set_cons_succ]
  refine qb_run (vI y') (by kernel_rfl) (fun w' hC => by obtain ⟨q0, q1⟩ := (t12.below hC t12.lt).cells2; go_simp) ?_
  simp only [Act.put, List.setIfInBounds_toArray, List.set_cons_zero, List.set_cons_succ]
  refine qb_call (vI one) 34 #[vI x', vI y'] (by kernel_rfl) (fun w' => by go_simp) (fun w' hC => (K2.out w').mono (fun e w'' h => ⟨h.1, hC.step h.2⟩)) ?_
  simp only [Act.put, List.setIfInBounds_toArray, List.set_cons_zero, List.set_cons_succ]
  refine qb_call (vI one) 12 #[.int .i64 1] (by kernel_rfl) (fun w' => by go_simp) (fun w' hC => (O1.out w').mono (fun e w'' h => ⟨h.1, hC.step h.2⟩)) ?_
  simp only [Act.put, List.setIfInBounds_toArray, List.set_cons_zero, List.set_cons_succ]
  refine qb_run (.bool true) (by kernel_rfl) (fun w' hC => by go_simp) ?_
  simp only [Act.put, List.setIfInBounds_toArray, List.set_cons_zero, List.set_cons_succ]
  refine qb_run (.bool true) (by kernel_rfl) (fun w' hC => by go_simp) ?_
  simp only [Act.put, List.setIfInBounds_toArray, List.set_cons_zero, List.set_cons_succ]
  refine qb_mv (.bool true) _ (.inl rfl) (by kernel_rfl) (by rfl) ?_
  simp only [Act.put, List.setIfInBounds_toArray, List.set_cons_zero, List.set_cons_succ]
  refine qb_run (vI g) (by kernel_rfl) (fun w' hC => by obtain ⟨q0, q1⟩ := (t8.below hC t8.lt).cells2; go_simp) ?_
  simp only [Act.put, List.setIfInBounds_toArray, List.set_cons_zero, List.set_cons_succ]
  refine qb_run (vI y) (by kernel_rfl) (fun w' hC => by obtain ⟨q0, q1⟩ := (t3.below hC t3.lt).cells2; go_simp) ?_
  simp only [Act.put, List.setIfInBounds_toArray, List.set_cons_zero, List.set_cons_succ]
  refine qb_run (vI x) (by kernel_rfl) (fun w' hC => by obtain ⟨q0, q1⟩ := (t2.below hC t2.lt).cells2; go_simp) ?_
  simp only [Act.put, List.setIfInBounds_toArray, List.set_cons_zero, List.set_cons_succ]
  refine qb_call (vI g) 34 #[vI y, vI x] (by kernel_rfl) (fun w' => by go_simp) (fun w' hC => (K3.out w').mono (fun e w'' h => ⟨h.1, hC.step h.2⟩)) ?_
  simp only [Act.put, List.setIfInBounds_toArray, List.set_cons_zero, List.set_cons_succ]
  refine qb_run (.bool true) (by kernel_rfl) (fun w' hC => by go_simp) ?_
  simp only [Act.put, List.setIfInBounds_toArray, List.set_cons_zero, List.set_cons_succ]
  refine qb_run (.bool true) (by kernel_rfl) (fun w' hC => by go_simp) ?_
  simp only [Act.put, List.setIfInBounds_toArray, List.set_cons_zero, List.set_cons_succ]
  refine qb_mv (.bool true) _ (.inr rfl) (by kernel_rfl) (by rfl) ?_
  simp only [Act.put, List.setIfInBounds_toArray, List.set_cons_zero, List.set_cons_succ]
  refine wpQuiet_nil (fun W15 hb => ?_)
  have t2 := t2.below hb t2.lt
  have t3 := t3.below hb t3.lt
  have t19 := t19.below hb t19.lt
  have t5 := t5.below hb t5.lt
  have t6 := t6.below hb t6.lt
  have t8 := t8.below hb t8.lt
  have t9 := t9.below hb t9.lt
  have t10 := t10.below hb t10.lt
  have t12 := t12.below hb t12.lt
  have t13 := t13.below hb t13.lt
  have bl := bl.trans (Below.mono hb bl.size)
  clear hb
  go_wp2_with fail
  go_ret
  exact ⟨rfl, bl⟩
set_option maxHeartbeats 4000000 in
set_option maxRecDepth 100000 in
theorem Quot_rest (x y q r qy ar ay g x' y' e1 e2 one : Int) (sb cn : Int) (w : World) (hsb : (sb == 0) = false) (hsb2 : (sb != 0) = true) (hcn : cn < 0)
    (HAW : ∀ W, Below w.heap.size w W → Calls Tryd.prog 10 #[] W (RetB true W))
    (HRI : ∀ (A : Option Addr) c W, RdI W A [(sg x, mg x), (sg y, mg y)] → Calls Tryd.prog 11 #[.slice A 2 c] W (RetB true W))
    (D1 : ∀ W, Calls Tryd.prog 28 #[vI x, vI y] W (RetIIE q r 0 W))
    (G1 : ∀ W, Calls Tryd.prog 19 #[vI y] W (RetN sb W))
    (M1 : ∀ W, Calls Tryd.prog 14 #[vI q, vI y] W (RetI qy W))
    (A1 : ∀ W, Calls Tryd.prog 13 #[vI qy, vI r] W (RetI x W))
    (B1 : ∀ W, Calls Tryd.prog 35 #[vI r] W (RetI ar W))
    (B2 : ∀ W, Calls Tryd.prog 35 #[vI y] W (RetI ay W))
    (C1 : ∀ W, Calls Tryd.prog 20 #[vI ar, vI ay] W (RetN cn W))
    (G2 : ∀ W, Calls Tryd.prog 19 #[vI r] W (RetN sb W))
    (K1 : ∀ W, Calls Tryd.prog 34 #[vI x, vI y] W (RetI g W))
    (D2 : ∀ W, Calls Tryd.prog 28 #[vI x, vI g] W (RetIIE x' e1 0 W))
    (D3 : ∀ W, Calls Tryd.prog 28 #[vI y, vI g] W (RetIIE y' e2 0 W))
    (G3 : ∀ W, Calls Tryd.prog 19 #[vI g] W (RetN 1 W))
    (G4 : ∀ W, Calls Tryd.prog 19 #[vI e1] W (RetN 0 W))
    (G5 : ∀ W, Calls Tryd.prog 19 #[vI e2] W (RetN 0 W))
    (K2 : ∀ W, Calls Tryd.prog 34 #[vI x', vI y'] W (RetI one W))
    (O1 : ∀ W, Calls Tryd.prog 12 #[.int .i64 1] W (RetI one W))
    (K3 : ∀ W, Calls Tryd.prog 34 #[vI y, vI x] W (RetI g W)) :
    Calls Tryd.prog 9 #[vI x, vI y] w (RetB true w) := by
  replace HAW := Lib.hid HAW
  replace HRI := Lib.hid HRI
  replace D1 := Lib.hid D1
  replace G1 := Lib.hid G1
  replace M1 := Lib.hid M1
  replace A1 := Lib.hid A1
  replace B1 := Lib.hid B1
  replace B2 := Lib.hid B2
  replace C1 := Lib.hid C1
  replace G2 := Lib.hid G2
  replace K1 := Lib.hid K1
  replace D2 := Lib.hid D2
  replace D3 := Lib.hid D3
  replace G3 := Lib.hid G3
  replace G4 := Lib.hid G4
  replace G5 := Lib.hid G5
  replace K2 := Lib.hid K2
  replace O1 := Lib.hid O1
  replace K3 := Lib.hid K3
  go_enter Tryd.func9, Tryd.ntmps9
  go_wp2_with fail
  have t2 := (Ob.new (w) 23 #[.bool (sg x), .string (mg x)]).alloc (.cells #[.bool (sg y), .string (mg y)] 23)
  have t3 := Ob.new ((w.alloc (.cells #[.bool (sg x), .string (mg x)] 23))) 23 #[.bool (sg y), .string (mg y)]
  have bl := (((Below.refl w.heap.size w).alloc (Nat.le_refl _) (.cells #[.bool (sg x), .string (mg x)] 23)).alloc (by simp only [World.size_alloc]; omega) (.cells #[.bool (sg y), .string (mg y)] 23))
  try simp only [World.size_alloc] at t2 t3
  generalize World.alloc (World.alloc w _) _ = W1 at t2 t3 bl ⊢
  refine (HAW.out W1 bl).mono ?_
  rintro e W2 ⟨rfl, hb⟩
  have t2 := t2.below hb t2.lt
  have t3 := t3.below hb t3.lt
  have bl := bl.trans (Below.mono hb bl.size)
  clear hb
  obtain ⟨c0_0, c0_1⟩ := t2.cells2
  obtain ⟨c1_0, c1_1⟩ := t3.cells2
  go_wp2_with fail
  clear c0_0 c0_1 c1_0 c1_1
  have t2 := (t2.alloc (.cells #[.bool (sg x), .string (mg x), .bool (sg y), .string (mg y)] 23))
  have t3 := (t3.alloc (.cells #[.bool (sg x), .string (mg x), .bool (sg y), .string (mg y)] 23))
  have t19 := Ob.new (W2) 23 #[.bool (sg x), .string (mg x), .bool (sg y), .string (mg y)]
  have bl := (bl.alloc (by have := bl.size; (try simp only [World.size_alloc] at *); omega) (.cells #[.bool (sg x), .string (mg x), .bool (sg y), .string (mg y)] 23))
  try simp only [World.size_alloc] at t2 t3 t19
  generalize hn3 : W2.heap.size = bk3 at t19 ⊢
  clear hn3
  generalize World.alloc W2 _ = W3 at t2 t3 t19 bl ⊢
  refine (HRI.out _ 2 W3 (rdi_pair t19)).mono ?_
  rintro e W4 ⟨rfl, hb⟩
  have t2 := t2.below hb t2.lt
  have t3 := t3.below hb t3.lt
  have t19 := t19.below hb t19.lt
  have bl := bl.trans (Below.mono hb bl.size)
  clear hb
  obtain ⟨c0_0, c0_1⟩ := t2.cells2
  obtain ⟨c1_0, c1_1⟩ := t3.cells2
  go_wp2_with fail
  clear c0_0 c0_1 c1_0 c1_1
  refine (D1.out W4).mono ?_
  rintro e W5 ⟨rfl, hb⟩
  have t2 := t2.below hb t2.lt
  have t3 := t3.below hb t3.lt
  have t19 := t19.below hb t19.lt
  have bl := bl.trans (Below.mono hb bl.size)
  clear hb
  obtain ⟨c0_0, c0_1⟩ := ((t3.alloc (.cells #[.bool (sg q), .string (mg q)] 23)).alloc (.cells #[.bool (sg r), .string (mg r)] 23)).cells2
  go_wp2_with fail
  clear c0_0 c0_1
  have t2 := ((t2.alloc (.cells #[.bool (sg q), .string (mg q)] 23)).alloc (.cells #[.bool (sg r), .string (mg r)] 23))
  have t3 := ((t3.alloc (.cells #[.bool (sg q), .string (mg q)] 23)).alloc (.cells #[.bool (sg r), .string (mg r)] 23))
  have t19 := ((t19.alloc (.cells #[.bool (sg q), .string (mg q)] 23)).alloc (.cells #[.bool (sg r), .string (mg r)] 23))
  have t5 := (Ob.new (W5) 23 #[.bool (sg q), .string (mg q)]).alloc (.cells #[.bool (sg r), .string (mg r)] 23)
  have t6 := Ob.new ((W5.alloc (.cells #[.bool (sg q), .string (mg q)] 23))) 23 #[.bool (sg r), .string (mg r)]
  have bl := ((bl.alloc (by have := bl.size; (try simp only [World.size_alloc] at *); omega) (.cells #[.bool (sg q), .string (mg q)] 23)).alloc (by have := bl.size; (try simp only [World.size_alloc] at *); omega) (.cells #[.bool (sg r), .string (mg r)] 23))
  try simp only [World.size_alloc] at t2 t3 t19 t5 t6
  generalize hn6 : W5.heap.size = bk6 at t5 t6 ⊢
  clear hn6
  generalize World.alloc (World.alloc W5 _) _ = W6 at t2 t3 t19 t5 t6 bl ⊢
  refine (G1.out W6).mono ?_
  rintro e W7 ⟨rfl, hb⟩
  have t2 := t2.below hb t2.lt
  have t3 := t3.below hb t3.lt
  have t19 := t19.below hb t19.lt
  have t5 := t5.below hb t5.lt
  have t6 := t6.below hb t6.lt
  have bl := bl.trans (Below.mono hb bl.size)
  clear hb
  go_wp2_with fail
  refine region_qb (by kernel_rfl) (by kernel_rfl) ?_
  refine qb_mv (.int .i64 0) _ (.inl rfl) (by kernel_rfl) (by rfl) ?_
  simp only [Act.put, List.setIfInBounds_toArray, List.set_cons_zero, List.set_cons_succ]
  refine qb_run (.bool false) (by kernel_rfl) (fun w' hC => by go_simp) ?_
  simp only [Act.put, List.setIfInBounds_toArray, List.set_cons_zero, List.set_cons_succ]
  refine qb_mv (.bool false) _ (.inl rfl) (by kernel_rfl) (by rfl) ?_
  simp only [Act.put, List.setIfInBounds_toArray, List.set_cons_zero, List.set_cons_succ]
  refine qb_run (vI q) (by kernel_rfl) (fun w' hC => by obtain ⟨q0, q1⟩ := (t5.below hC t5.lt).cells2; go_simp) ?_
  simp only [Act.put, List.setIfInBounds_toArray, List.set_cons_zero, List.set_cons_succ]
  refine qb_run (vI y) (by kernel_rfl) (fun w' hC => by obtain ⟨q0, q1⟩ := (t3.below hC t3.lt).cells2; go_simp) ?_
  simp only [Act.put, List.setIfInBounds_toArray, List.set_cons_zero, List.set_cons_succ]
  refine qb_call (vI qy) 14 #[vI q, vI y] (by kernel_rfl) (fun w' => by go_simp) (fun w' hC => (M1.out w').mono (fun e w'' h => ⟨h.1, hC.step h.2⟩)) ?_
  simp only [Act.put, List.setIfInBounds_toArray, List.set_cons_zero, List.set_cons_succ]
  refine qb_run (vI r) (by kernel_rfl) (fun w' hC => by obtain ⟨q0, q1⟩ := (t6.below hC t6.lt).cells2; go_simp) ?_
  simp only [Act.put, List.setIfInBounds_toArray, List.set_cons_zero, List.set_cons_succ]
  refine qb_call (vI x) 13 #[vI qy, vI r] (by kernel_rfl) (fun w' => by go_simp) (fun w' hC => (A1.out w').mono (fun e w'' h => ⟨h.1, hC.step h.2⟩)) ?_
  simp only [Act.put, List.setIfInBounds_toArray, List.set_cons_zero, List.set_cons_succ]
  refine qb_run (vI x) (by kernel_rfl) (fun w' hC => by obtain ⟨q0, q1⟩ := (t2.below hC t2.lt).cells2; go_simp) ?_
  simp only [Act.put, List.setIfInBounds_toArray, List.set_cons_zero, List.set_cons_succ]
  refine qb_run (.bool false) (by kernel_rfl) (fun w' hC => by go_simp) ?_
  simp only [Act.put, List.setIfInBounds_toArray, List.set_cons_zero, List.set_cons_succ]
  refine qb_run (.bool false) (by kernel_rfl) (fun w' hC => by go_simp) ?_
  simp only [Act.put, List.setIfInBounds_toArray, List.set_cons_zero, List.set_cons_succ]
  refine qb_mv (.bool false) _ (.inl rfl) (by kernel_rfl) (by rfl) ?_
  simp only [Act.put, List.setIfInBounds_toArray, List.set_cons_zero, List.set_cons_succ]
  refine qb_run (vI r) (by kernel_rfl) (fun w' hC => by obtain ⟨q0, q1⟩ := (t6.below hC t6.lt).cells2; go_simp) ?_
  simp only [Act.put, List.setIfInBounds_toArray, List.set_cons_zero, List.set_cons_succ]
  refine qb_call (vI ar) 35 #[vI r] (by kernel_rfl) (fun w' => by go_simp) (fun w' hC => (B1.out w').mono (fun e w'' h => ⟨h.1, hC.step h.2⟩)) ?_
  simp only [Act.put, List.setIfInBounds_toArray, List.set_cons_zero, List.set_cons_succ]
  refine qb_run (vI y) (by kernel_rfl) (fun w' hC => by obtain ⟨q0, q1⟩ := (t3.below hC t3.lt).cells2; go_simp) ?_
  simp only [Act.put, List.setIfInBounds_toArray, List.set_cons_zero, List.set_cons_succ]
  refine qb_call (vI ay) 35 #[vI y] (by kernel_rfl) (fun w' => by go_simp) (fun w' hC => (B2.out w').mono (fun e w'' h => ⟨h.1, hC.step h.2⟩)) ?_
  simp only [Act.put, List.setIfInBounds_toArray, List.set_cons_zero, List.set_cons_succ]
  refine qb_call (.int .i64 cn) 20 #[vI ar, vI ay] (by kernel_rfl) (fun w' => by go_simp) (fun w' hC => (C1.out w').mono (fun e w'' h => ⟨h.1, hC.step h.2⟩)) ?_
  simp only [Act.put, List.setIfInBounds_toArray, List.set_cons_zero, List.set_cons_succ]
  refine qb_run (.bool false) (by kernel_rfl) (fun w' hC => by go_simp) ?_
  simp only [Act.put, List.setIfInBounds_toArray, List.set_cons_zero, List.set_cons_succ]
  refine qb_run (.bool false) (by kernel_rfl) (fun w' hC => by go_simp) ?_
  simp only [Act.put, List.setIfInBounds_toArray, List.set_cons_zero, List.set_cons_succ]
  refine qb_mv (.bool false) _ (.inl rfl) (by kernel_rfl) (by rfl) ?_
  simp only [Act.put, List.setIfInBounds_toArray, List.set_cons_zero, List.set_cons_succ]
  refine qb_run (vI r) (by kernel_rfl) (fun w' hC => by obtain ⟨q0, q1⟩ := (t6.below hC t6.lt).cells2; go_simp) ?_
  simp only [Act.put, List.setIfInBounds_toArray, List.set_cons_zero, List.set_cons_succ]
  refine qb_call (.int .i64 sb) 19 #[vI r] (by kernel_rfl) (fun w' => by go_simp) (fun w' hC => (G2.out w').mono (fun e w'' h => ⟨h.1, hC.step h.2⟩)) ?_
  simp only [Act.put, List.setIfInBounds_toArray, List.set_cons_zero, List.set_cons_succ]
  refine qb_run (.bool true) (by kernel_rfl) (fun w' hC => by go_simp) ?_
  simp only [Act.put, List.setIfInBounds_toArray, List.set_cons_zero, List.set_cons_succ]
  refine qb_mv (.bool true) _ (.inl rfl) (by kernel_rfl) (by rfl) ?_
  simp only [Act.put, List.setIfInBounds_toArray, List.set_cons_zero, List.set_cons_succ]
  refine qb_run (vI r) (by kernel_rfl) (fun w' hC => by obtain ⟨q0, q1⟩ := (t6.below hC t6.lt).cells2; go_simp) ?_
  simp only [Act.put, List.setIfInBounds_toArray, List.set_cons_zero, List.set_cons_succ]
  refine qb_call (.int .i64 sb) 19 #[vI r] (by kernel_rfl) (fun w' => by go_simp) (fun w' hC => (G2.out w').mono (fun e w'' h => ⟨h.1, hC.step h.2⟩)) ?_
  simp only [Act.put, List.setIfInBounds_toArray, List.set_cons_zero, List.set_cons_succ]
  refine qb_run (vI y) (by kernel_rfl) (fun w' hC => by obtain ⟨q0, q1⟩ := (t3.below hC t3.lt).cells2; go_simp) ?_
  simp only [Act.put, List.setIfInBounds_toArray, List.set_cons_zero, List.set_cons_succ]
  refine qb_call (.int .i64 sb) 19 #[vI y] (by kernel_rfl) (fun w' => by go_simp) (fun w' hC => (G1.out w').mono (fun e w'' h => ⟨h.1, hC.step h.2⟩)) ?_
  simp only [Act.put, List.setIfInBounds_toArray, List.set_cons_zero, List.set_cons_succ]
  refine qb_run (.bool false) (by kernel_rfl) (fun w' hC => by go_simp) ?_
  simp only [Act.put, List.setIfInBounds_toArray, List.set_cons_zero, List.set_cons_succ]
  refine qb_run (.bool false) (by kernel_rfl) (fun w' hC => by go_simp) ?_
  simp only [Act.put, List.setIfInBounds_toArray, List.set_cons_zero, List.set_cons_succ]
  refine qb_run (.bool false) (by kernel_rfl) (fun w' hC => by go_simp) ?_
  simp only [Act.put, List.setIfInBounds_toArray, List.set_cons_zero, List.set_cons_succ]
  refine wpQuiet_nil (fun W8 hb => ?_)
  have t2 := t2.below hb t2.lt
  have t3 := t3.below hb t3.lt
  have t19 := t19.below hb t19.lt
  have t5 := t5.below hb t5.lt
  have t6 := t6.below hb t6.lt
  have bl := bl.trans (Below.mono hb bl.size)
  clear hb
  obtain ⟨c0_0, c0_1⟩ := t2.cells2
  obtain ⟨c1_0, c1_1⟩ := t3.cells2
  go_wp2_with fail
  clear c0_0 c0_1 c1_0 c1_1
  refine (K1.out W8).mono ?_
  rintro e W9 ⟨rfl, hb⟩
  have t2 := t2.below hb t2.lt
  have t3 := t3.below hb t3.lt
  have t19 := t19.below hb t19.lt
  have t5 := t5.below hb t5.lt
  have t6 := t6.below hb t6.lt
  have bl := bl.trans (Below.mono hb bl.size)
  clear hb
  obtain ⟨c0_0, c0_1⟩ := (t2.alloc (.cells #[.bool (sg g), .string (mg g)] 23)).cells2
  go_wp2_with fail
  clear c0_0 c0_1
  have t2 := (t2.alloc (.cells #[.bool (sg g), .string (mg g)] 23))
  have t3 := (t3.alloc (.cells #[.bool (sg g), .string (mg g)] 23))
  have t19 := (t19.alloc (.cells #[.bool (sg g), .string (mg g)] 23))
  have t5 := (t5.alloc (.cells #[.bool (sg g), .string (mg g)] 23))
  have t6 := (t6.alloc (.cells #[.bool (sg g), .string (mg g)] 23))
  have t8 := Ob.new (W9) 23 #[.bool (sg g), .string (mg g)]
  have bl := (bl.alloc (by have := bl.size; (try simp only [World.size_alloc] at *); omega) (.cells #[.bool (sg g), .string (mg g)] 23))
  try simp only [World.size_alloc] at t2 t3 t19 t5 t6 t8
  generalize hn10 : W9.heap.size = bk10 at t8 ⊢
  clear hn10
  generalize World.alloc W9 _ = W10 at t2 t3 t19 t5 t6 t8 bl ⊢
  refine (D2.out W10).mono ?_
  rintro e W11 ⟨rfl, hb⟩
  have t2 := t2.below hb t2.lt
  have t3 := t3.below hb t3.lt
  have t19 := t19.below hb t19.lt
  have t5 := t5.below hb t5.lt
  have t6 := t6.below hb t6.lt
  have t8 := t8.below hb t8.lt
  have bl := bl.trans (Below.mono hb bl.size)
  clear hb
  obtain ⟨c0_0, c0_1⟩ := ((t3.alloc (.cells #[.bool (sg x'), .string (mg x')] 23)).alloc (.cells #[.bool (sg e1), .string (mg e1)] 23)).cells2
  obtain ⟨c1_0, c1_1⟩ := ((t8.alloc (.cells #[.bool (sg x'), .string (mg x')] 23)).alloc (.cells #[.bool (sg e1), .string (mg e1)] 23)).cells2
  go_wp2_with fail
  clear c0_0 c0_1 c1_0 c1_1
  have t2 := ((t2.alloc (.cells #[.bool (sg x'), .string (mg x')] 23)).alloc (.cells #[.bool (sg e1), .string (mg e1)] 23))
  have t3 := ((t3.alloc (.cells #[.bool (sg x'), .string (mg x')] 23)).alloc (.cells #[.bool (sg e1), .string (mg e1)] 23))
  have t19 := ((t19.alloc (.cells #[.bool (sg x'), .string (mg x')] 23)).alloc (.cells #[.bool (sg e1), .string (mg e1)] 23))
  have t5 := ((t5.alloc (.cells #[.bool (sg x'), .string (mg x')] 23)).alloc (.cells #[.bool (sg e1), .string (mg e1)] 23))
  have t6 := ((t6.alloc (.cells #[.bool (sg x'), .string (mg x')] 23)).alloc (.cells #[.bool (sg e1), .string (mg e1)] 23))
  have t8 := ((t8.alloc (.cells #[.bool (sg x'), .string (mg x')] 23)).alloc (.cells #[.bool (sg e1), .string (mg e1)] 23))
  have t9 := (Ob.new (W11) 23 #[.bool (sg x'), .string (mg x')]).alloc (.cells #[.bool (sg e1), .string (mg e1)] 23)
  have t10 := Ob.new ((W11.alloc (.cells #[.bool (sg x'), .string (mg x')] 23))) 23 #[.bool (sg e1), .string (mg e1)]
  have bl := ((bl.alloc (by have := bl.size; (try simp only [World.size_alloc] at *); omega) (.cells #[.bool (sg x'), .string (mg x')] 23)).alloc (by have := bl.size; (try simp only [World.size_alloc] at *); omega) (.cells #[.bool (sg e1), .string (mg e1)] 23))
  try simp only [World.size_alloc] at t2 t3 t19 t5 t6 t8 t9 t10
  generalize hn12 : W11.heap.size = bk12 at t9 t10 ⊢
  clear hn12
  generalize World.alloc (World.alloc W11 _) _ = W12 at t2 t3 t19 t5 t6 t8 t9 t10 bl ⊢
  refine (D3.out W12).mono ?_
  rintro e W13 ⟨rfl, hb⟩
  have t2 := t2.below hb t2.lt
  have t3 := t3.below hb t3.lt
  have t19 := t19.below hb t19.lt
  have t5 := t5.below hb t5.lt
  have t6 := t6.below hb t6.lt
  have t8 := t8.below hb t8.lt
  have t9 := t9.below hb t9.lt
  have t10 := t10.below hb t10.lt
  have bl := bl.trans (Below.mono hb bl.size)
  clear hb
  go_wp2_with fail
  have t2 := ((t2.alloc (.cells #[.bool (sg y'), .string (mg y')] 23)).alloc (.cells #[.bool (sg e2), .string (mg e2)] 23))
  have t3 := ((t3.alloc (.cells #[.bool (sg y'), .string (mg y')] 23)).alloc (.cells #[.bool (sg e2), .string (mg e2)] 23))
  have t19 := ((t19.alloc (.cells #[.bool (sg y'), .string (mg y')] 23)).alloc (.cells #[.bool (sg e2), .string (mg e2)] 23))
  have t5 := ((t5.alloc (.cells #[.bool (sg y'), .string (mg y')] 23)).alloc (.cells #[.bool (sg e2), .string (mg e2)] 23))
  have t6 := ((t6.alloc (.cells #[.bool (sg y'), .string (mg y')] 23)).alloc (.cells #[.bool (sg e2), .string (mg e2)] 23))
  have t8 := ((t8.alloc (.cells #[.bool (sg y'), .string (mg y')] 23)).alloc (.cells #[.bool (sg e2), .string (mg e2)] 23))
  have t9 := ((t9.alloc (.cells #[.bool (sg y'), .string (mg y')] 23)).alloc (.cells #[.bool (sg e2), .string (mg e2)] 23))
  have t10 := ((t10.alloc (.cells #[.bool (sg y'), .string (mg y')] 23)).alloc (.cells #[.bool (sg e2), .string (mg e2)] 23))
  have t12 := (Ob.new (W13) 23 #[.bool (sg y'), .string (mg y')]).alloc (.cells #[.bool (sg e2), .string (mg e2)] 23)
  have t13 := Ob.new ((W13.alloc (.cells #[.bool (sg y'), .string (mg y')] 23))) 23 #[.bool (sg e2), .string (mg e2)]
  have bl := ((bl.alloc (by have := bl.size; (try simp only [World.size_alloc] at *); omega) (.cells #[.bool (sg y'), .string (mg y')] 23)).alloc (by have := bl.size; (try simp only [World.size_alloc] at *); omega) (.cells #[.bool (sg e2), .string (mg e2)] 23))
  try simp only [World.size_alloc] at t2 t3 t19 t5 t6 t8 t9 t10 t12 t13
  generalize hn14 : W13.heap.size = bk14 at t12 t13 ⊢
  clear hn14
  generalize World.alloc (World.alloc W13 _) _ = W14 at t2 t3 t19 t5 t6 t8 t9 t10 t12 t13 bl ⊢
  refine region_qb (by kernel_rfl) (by kernel_rfl) ?_
  refine qb_mv (.int .i64 0) _ (.inl rfl) (by kernel_rfl) (by rfl) ?_
  simp only [Act.put, List.setIfInBounds_toArray, List.set_cons_zero, List.set_cons_succ]
  refine qb_run (.bool true) (by kernel_rfl) (fun w' hC => by go_simp) ?_
  simp only [Act.put, List.setIfInBounds_toArray, List.set_cons_zero, List.set_cons_succ]
  refine qb_mv (.bool true) _ (.inl rfl) (by kernel_rfl) (by rfl) ?_
  simp only [Act.put, List.setIfInBounds_toArray, List.set_cons_zero, List.set_cons_succ]
  refine qb_mv (.int .i64 0) _ (.inl rfl) (by kernel_rfl) (by rfl) ?_
  simp only [Act.put, List.setIfInBounds_toArray, List.set_cons_zero, List.set_cons_succ]
  refine qb_run (.bool true) (by kernel_rfl) (fun w' hC => by go_simp) ?_
  simp only [Act.put, List.setIfInBounds_toArray, List.set_cons_zero, List.set_cons_succ]
  refine qb_run (.bool true) (by kernel_rfl) (fun w' hC => by go_simp) ?_
  simp only [Act.put, List.setIfInBounds_toArray, List.set_cons_zero, List.set_cons_succ]
  refine qb_mv (.bool true) _ (.inl rfl) (by kernel_rfl) (by rfl) ?_
  simp only [Act.put, List.setIfInBounds_toArray, List.set_cons_zero, List.set_cons_succ]
  refine qb_run (vI g) (by kernel_rfl) (fun w' hC => by obtain ⟨q0, q1⟩ := (t8.below hC t8.lt).cells2; go_simp) ?_
  simp only [Act.put, List.setIfInBounds_toArray, List.set_cons_zero, List.set_cons_succ]
  refine qb_call (.int .i64 1) 19 #[vI g] (by kernel_rfl) (fun w' => by go_simp) (fun w' hC => (G3.out w').mono (fun e w'' h => ⟨h.1, hC.step h.2⟩)) ?_
  simp only [Act.put, List.setIfInBounds_toArray, List.set_cons_zero, List.set_cons_succ]
  refine qb_run (.bool true) (by kernel_rfl) (fun w' hC => by go_simp) ?_
  simp only [Act.put, List.setIfInBounds_toArray, List.set_cons_zero, List.set_cons_succ]
  refine qb_run (.bool true) (by kernel_rfl) (fun w' hC => by go_simp) ?_
  simp only [Act.put, List.setIfInBounds_toArray, List.set_cons_zero, List.set_cons_succ]
  refine qb_mv (.bool true) _ (.inl rfl) (by kernel_rfl) (by rfl) ?_
  simp only [Act.put, List.setIfInBounds_toArray, List.set_cons_zero, List.set_cons_succ]
  refine qb_run (vI e1) (by kernel_rfl) (fun w' hC => by obtain ⟨q0, q1⟩ := (t10.below hC t10.lt).cells2; go_simp) ?_
  simp only [Act.put, List.setIfInBounds_toArray, List.set_cons_zero, List.set_cons_succ]
  refine qb_call (.int .i64 0) 19 #[vI e1] (by kernel_rfl) (fun w' => by go_simp) (fun w' hC => (G4.out w').mono (fun e w'' h => ⟨h.1, hC.step h.2⟩)) ?_
  simp only [Act.put, List.setIfInBounds_toArray, List.set_cons_zero, List.set_cons_succ]
  refine qb_run (.bool true) (by kernel_rfl) (fun w' hC => by go_simp) ?_
  simp only [Act.put, List.setIfInBounds_toArray, List.set_cons_zero, List.set_cons_succ]
  refine qb_run (.bool true) (by kernel_rfl) (fun w' hC => by go_simp) ?_
  simp only [Act.put, List.setIfInBounds_toArray, List.set_cons_zero, List.set_cons_succ]
  refine qb_mv (.bool true) _ (.inl rfl) (by kernel_rfl) (by rfl) ?_
  simp only [Act.put, List.setIfInBounds_toArray, List.set_cons_zero, List.set_cons_succ]
  refine qb_run (vI e2) (by kernel_rfl) (fun w' hC => by obtain ⟨q0, q1⟩ := (t13.below hC t13.lt).cells2; go_simp) ?_
  simp only [Act.put, List.setIfInBounds_toArray, List.set_cons_zero, List.set_cons_succ]
  refine qb_call (.int .i64 0) 19 #[vI e2] (by kernel_rfl) (fun w' => by go_simp) (fun w' hC => (G5.out w').mono (fun e w'' h => ⟨h.1, hC.step h.2⟩)) ?_
  simp only [Act.put, List.setIfInBounds_toArray, List.set_cons_zero, List.set_cons_succ]
  refine qb_run (.bool true) (by kernel_rfl) (fun w' hC => by go_simp) ?_
  simp only [Act.put, List.setIfInBounds_toArray, List.set_cons_zero, List.set_cons_succ]
  refine qb_run (.bool true) (by kernel_rfl) (fun w' hC => by go_simp) ?_
  simp only [Act.put, List.setIfInBounds_toArray, List.set_cons_zero, List.set_cons_succ]
  refine qb_mv (.bool true) _ (.inl rfl) (by kernel_rfl) (by rfl) ?_
  simp only [Act.put, List.setIfInBounds_toArray, List.set_cons_zero, List.set_cons_succ]
  refine qb_run (vI x') (by kernel_rfl) (fun w' hC => by obtain ⟨q0, q1⟩ := (t9.below hC t9.lt).cells2; go_simp) ?_
  simp only [Act.put, List.setIfInBounds_toArray, List.set_cons_zero, List.set_cons_succ]
  refine qb_run (vI y') (by kernel_rfl) (fun w' hC => by obtain ⟨q0, q1⟩ := (t12.below hC t12.lt).cells2; go_simp) ?_
  simp only [Act.put, List.setIfInBounds_toArray, List.set_cons_zero, List.set_cons_succ]
  refine qb_call (vI one) 34 #[vI x', vI y'] (by kernel_rfl) (fun w' => by go_simp) (fun w' hC => (K2.out w').mono (fun e w'' h => ⟨h.1, hC.step h.2⟩)) ?_
  simp only [Act.put, List.setIfInBounds_toArray, List.set_cons_zero, List.set_cons_succ]
  refine qb_call (vI one) 12 #[.int .i64 1] (by kernel_rfl) (fun w' => by go_simp) (fun w' hC => (O1.out w').mono (fun e w'' h => ⟨h.1, hC.step h.2⟩)) ?_
  simp only [Act.put, List.setIfInBounds_toArray, List.set_cons_zero, List.set_cons_succ]
  refine qb_run (.bool true) (by kernel_rfl) (fun w' hC => by go_simp) ?_
  simp only [Act.put, List.setIfInBounds_toArray, List.set_cons_zero, List.set_cons_succ]
  refine qb_run (.bool true) (by kernel_rfl) (fun w' hC => by go_simp) ?_
  simp only [Act.put, List.setIfInBounds_toArray, List.set_cons_zero, List.set_cons_succ]
  refine qb_mv (.bool true) _ (.inl rfl) (by kernel_rfl) (by rfl) ?_
  simp only [Act.put, List.setIfInBounds_toArray, List.set_cons_zero, List.set_cons_succ]
  refine qb_run (vI g) (by kernel_rfl) (fun w' hC => by obtain ⟨q0, q1⟩ := (t8.below hC t8.lt).cells2; go_simp) ?_
  simp only [Act.put, List.setIfInBounds_toArray, List.set_cons_zero, List.set_cons_succ]
  refine qb_run (vI y) (by kernel_rfl) (fun w' hC => by obtain ⟨q0, q1⟩ := (t3.below hC t3.lt).cells2; go_simp) ?_
  simp only [Act.put, List.setIfInBounds_toArray, List.set_cons_zero, List.set_cons_succ]
  refine qb_run (vI x) (by kernel_rfl) (fun w' hC => by obtain ⟨q0, q1⟩ := (t2.below hC t2.lt).cells2; go_simp) ?_
  simp only [Act.put, List.setIfInBounds_toArray, List.set_cons_zero, List.set_cons_succ]
  refine qb_call (vI g) 34 #[vI y, vI x] (by kernel_rfl) (fun w' => by go_simp) (fun w' hC => (K3.out w').mono (fun e w'' h => ⟨h.1, hC.step h.2⟩)) ?_
  simp only [Act.put, List.setIfInBounds_toArray, List.set_cons_zero, List.set_cons_succ]
  refine qb_run (.bool true) (by kernel_rfl) (fun w' hC => by go_simp) ?_
  simp only [Act.put, List.setIfInBounds_toArray, List.set_cons_zero, List.set_cons_succ]
  refine qb_run (.bool true) (by kernel_rfl) (fun w' hC => by go_simp) ?_
  simp only [Act.put, List.setIfInBounds_toArray, List.set_cons_zero, List.set_cons_succ]
  refine qb_mv (.bool true) _ (.inr rfl) (by kernel_rfl) (by rfl) ?_
  simp only [Act.put, List.setIfInBounds_toArray, List.set_cons_zero, List.set_cons_succ]
  refine wpQuiet_nil (fun W15 hb => ?_)
  have t2 := t2.below hb t2.lt
  have t3 := t3.below hb t3.lt
  have t19 := t19.below hb t19.lt
  have t5 := t5.below hb t5.lt
  have t6 := t6.below hb t6.lt
  have t8 := t8.below hb t8.lt
  have t9 := t9.below hb t9.lt
  have t10 := t10.below hb t10.lt
  have t12 := t12.below hb t12.lt
  have t13 := t13.below hb t13.lt
  have bl := bl.trans (Below.mono hb bl.size)
  clear hb
  go_wp2_with fail
  go_ret
  exact ⟨rfl, bl⟩

theorem fmod_abs (x y : Int) (hy : y ≠ 0) : ((x.fmod y).natAbs : Int) < (y.natAbs : Int) ∧ (x.fmod y ≠ 0 → (x.fmod y).sign = y.sign) := by
  obtain ⟨h1, h2, h3, h4⟩ := tmod_facts x y hy
  by_cases h : x.tmod y = 0 ∨ sg x = sg y
  · rw [(fdiv_same hy h).2]
    refine ⟨by omega, fun h0 => ?_⟩
    rcases h with h | h
    · exact absurd h h0
    · unfold sg at h
      rcases Int.lt_trichotomy y 0 with h5 | h5 | h5
      · have hx : x < 0 := by simpa [h5] using h
        rw [Int.sign_eq_neg_one_of_neg h5, Int.sign_eq_neg_one_of_neg (by have := h4 hx; omega)]
      · exact absurd h5 hy
      · have hx : ¬ x < 0 := by
          intro hx
          simp [hx] at h; omega
        rw [Int.sign_eq_one_of_pos h5, Int.sign_eq_one_of_pos (by have := h3 (by omega); omega)]
  · have h' : x.tmod y ≠ 0 ∧ sg x ≠ sg y := by
      constructor
      · exact fun e => h (.inl e)
      · exact fun e => h (.inr e)
    rw [(fdiv_less hy h'.1 h'.2).2]
    have h5 := h'.1
    have h6 := h'.2
    unfold sg at h6
    rcases Int.lt_trichotomy y 0 with h7 | h7 | h7
    · have hx : ¬ x < 0 := by
        intro hx
        simp [hx, h7] at h6
      have := h3 (by omega)
      refine ⟨by omega, fun _ => ?_⟩
      rw [Int.sign_eq_neg_one_of_neg h7, Int.sign_eq_neg_one_of_neg (by omega)]
    · exact absurd h7 hy
    · have hx : x < 0 := by
        apply Decidable.byContradiction
        intro hx
        have h8 : ¬ y < 0 := by omega
        simp [hx, h8] at h6
      have := h4 hx
      refine ⟨by omega, fun _ => ?_⟩
      rw [Int.sign_eq_one_of_pos h7, Int.sign_eq_one_of_pos (by omega)]

theorem Quot_all (n m : Bool) (s t : ByteArray) (w : World) (ht : HasTab w) : Calls Tryd.prog 9 #[.agg #[.bool n, .string s], .agg #[.bool m, .string t]] w (RetB true w) := by
  have HAW : ∀ W, Below w.heap.size w W → Calls Tryd.prog 10 #[] W (RetB true W) := fun W h => awake_any W (ht.below h)
  have HRI := fun (A : Option Addr) c W h => right_any A c [(n, s), (m, t)] W h (by simp)
  cases hr : (([(n, s), (m, t)].all fun p => vld p.1 p.2) && [(n, s), (m, t)].all fun p => decide (p.2.size ≤ 60)) with
  | false =>
    rw [hr] at HRI
    exact Quot_no n m s t w HAW HRI
  | true =>
    rw [hr] at HRI
    simp only [List.all_cons, List.all_nil, Bool.and_true, Bool.and_eq_true, decide_eq_true_eq] at hr
    obtain ⟨⟨v1, v2⟩, f1, f2⟩ := hr
    obtain ⟨e1, e2⟩ := vld_form v1
    obtain ⟨e3, e4⟩ := vld_form v2
    generalize ival n s = x at *
    generalize ival m t = y at *
    subst e1 e2 e3 e4
    have hx : Bd 60 x := (Bd.of_size x).mono f1
    have hy : Bd 60 y := (Bd.of_size y).mono f2
    by_cases hy0 : y = 0
    · subst hy0
      exact Quot_zero x 0 0 0 (x.natAbs : Int) w HAW HRI (fun W => by have := DivMod_div0 (sg x) (mg x) W (vld_sg x); exact this) (Sign_any 0) (fun W => by have := Gcd_any x 0 W (hx.mono (by omega)) (Bd.zero _); simpa using this) (Abs_any x)
    · have hf := fmod_abs x y hy0
      have hq : Bd 61 (x.fdiv y) := by
        rcases Int.lt_trichotomy (x.fdiv y) 0 with h | h | h
        all_goals
          have h1 := Int.mul_fdiv_add_fmod x y
          by_cases hs : x.tmod y = 0 ∨ sg x = sg y
          · rw [(fdiv_same hy0 hs).1]; exact (hx.tdiv).mono (by omega)
          · have h' : x.tmod y ≠ 0 ∧ sg x ≠ sg y := ⟨fun e => hs (.inl e), fun e => hs (.inr e)⟩
            rw [(fdiv_less hy0 h'.1 h'.2).1]; exact (hx.tdiv).sub (Bd.one (by omega))
      have hr : Bd 60 (x.fmod y) := hy.le (by have := hf.1; omega)
      have hgp : 0 < Nat.gcd x.natAbs y.natAbs := Nat.gcd_pos_of_pos_right _ (by omega)
      have hgd : ((Nat.gcd x.natAbs y.natAbs : Nat) : Int) ∣ x := Int.ofNat_dvd_left.2 (Nat.gcd_dvd_left _ _)
      have hgd2 : ((Nat.gcd x.natAbs y.natAbs : Nat) : Int) ∣ y := Int.ofNat_dvd_left.2 (Nat.gcd_dvd_right _ _)
      have hgb : Bd 60 ((Nat.gcd x.natAbs y.natAbs : Nat) : Int) := hy.le (by
        rw [Int.natAbs_natCast]; exact Nat.gcd_le_right _ (by omega))
      have k1 : ∀ W, Calls Tryd.prog 34 #[vI x, vI y] W (RetI (Nat.gcd x.natAbs y.natAbs : Nat) W) := fun W => Gcd_any x y W (hx.mono (by omega)) (hy.mono (by omega))
      have k3 : ∀ W, Calls Tryd.prog 34 #[vI y, vI x] W (RetI (Nat.gcd x.natAbs y.natAbs : Nat) W) := fun W => by rw [Nat.gcd_comm]; exact Gcd_any y x W (hy.mono (by omega)) (hx.mono (by omega))
      have ea : (x.fdiv ((Nat.gcd x.natAbs y.natAbs : Nat) : Int)).natAbs = x.natAbs / Nat.gcd x.natAbs y.natAbs := by rw [Int.fdiv_eq_ediv_of_dvd hgd, Int.natAbs_ediv_of_dvd hgd, Int.natAbs_natCast]
      have eb : (y.fdiv ((Nat.gcd x.natAbs y.natAbs : Nat) : Int)).natAbs = y.natAbs / Nat.gcd x.natAbs y.natAbs := by rw [Int.fdiv_eq_ediv_of_dvd hgd2, Int.natAbs_ediv_of_dvd hgd2, Int.natAbs_natCast]
      have hxb : Bd 60 (x.fdiv ((Nat.gcd x.natAbs y.natAbs : Nat) : Int)) := hx.le (by rw [ea]; exact Nat.div_le_self _ _)
      have hyb : Bd 60 (y.fdiv ((Nat.gcd x.natAbs y.natAbs : Nat) : Int)) := hy.le (by rw [eb]; exact Nat.div_le_self _ _)
      have k2 : ∀ W, Calls Tryd.prog 34 #[vI (x.fdiv ((Nat.gcd x.natAbs y.natAbs : Nat) : Int)), vI (y.fdiv ((Nat.gcd x.natAbs y.natAbs : Nat) : Int))] W (RetI 1 W) := fun W => by
        have h := Gcd_any (x.fdiv ((Nat.gcd x.natAbs y.natAbs : Nat) : Int)) (y.fdiv ((Nat.gcd x.natAbs y.natAbs : Nat) : Int)) W (hxb.mono (by omega)) (hyb.mono (by omega))
        rw [ea, eb, Nat.gcd_div_gcd_div_gcd_of_pos_right (by omega)] at h
        exact h
      have d2 : ∀ W, Calls Tryd.prog 28 #[vI x, vI ((Nat.gcd x.natAbs y.natAbs : Nat) : Int)] W (RetIIE (x.fdiv ((Nat.gcd x.natAbs y.natAbs : Nat) : Int)) 0 0 W) := fun W => by
        have h := DivMod_any x ((Nat.gcd x.natAbs y.natAbs : Nat) : Int) W (hx.mono (by omega)) (hgb.mono (by omega)) (by omega)
        rw [Int.fmod_eq_zero_of_dvd hgd] at h
        exact h
      have d3 : ∀ W, Calls Tryd.prog 28 #[vI y, vI ((Nat.gcd x.natAbs y.natAbs : Nat) : Int)] W (RetIIE (y.fdiv ((Nat.gcd x.natAbs y.natAbs : Nat) : Int)) 0 0 W) := fun W => by
        have h := DivMod_any y ((Nat.gcd x.natAbs y.natAbs : Nat) : Int) W (hy.mono (by omega)) (hgb.mono (by omega)) (by omega)
        rw [Int.fmod_eq_zero_of_dvd hgd2] at h
        exact h
      have g3 : ∀ W, Calls Tryd.prog 19 #[vI ((Nat.gcd x.natAbs y.natAbs : Nat) : Int)] W (RetN 1 W) := fun W => by
        have h := Sign_any ((Nat.gcd x.natAbs y.natAbs : Nat) : Int) W
        rwa [Int.sign_eq_one_of_pos (by omega)] at h
      have hsb : (y.sign == 0) = false := by rw [beq_eq_false_iff_ne]; exact fun e => hy0 (Int.sign_eq_zero_iff_zero.1 e)
      have hsb2 : (y.sign != 0) = true := by rw [bne_iff_ne]; exact fun e => hy0 (Int.sign_eq_zero_iff_zero.1 e)
      have hcn : (((x.fmod y).natAbs : Int) - (y.natAbs : Int)).sign < 0 := by rw [Int.sign_eq_neg_one_of_neg (by have := hf.1; omega)]; omega
      have hab : Bd 60 ((x.fmod y).natAbs : Int) := hr.le (by simp)
      have hay : Bd 60 (y.natAbs : Int) := hy.le (by simp)
      have m1 : ∀ W, Calls Tryd.prog 14 #[vI (x.fdiv y), vI y] W (RetI (x.fdiv y * y) W) := fun W => Mul_any _ _ W (hq.mono (by omega)) (hy.mono (by omega))
      have a1 : ∀ W, Calls Tryd.prog 13 #[vI (x.fdiv y * y), vI (x.fmod y)] W (RetI x W) := fun W => by
        have h := Add_any (x.fdiv y * y) (x.fmod y) W ((hq.mul hy).mono (by omega)) (hr.mono (by omega))
        rwa [Int.fdiv_mul_add_fmod] at h
      by_cases hr0 : x.fmod y = 0
      · exact Quot_exact x y (x.fdiv y) (x.fmod y) (x.fdiv y * y) ((x.fmod y).natAbs : Int) (y.natAbs : Int) _ _ _ 0 0 1 y.sign _ w hsb hcn HAW HRI (fun W => DivMod_any x y W (hx.mono (by omega)) (hy.mono (by omega)) hy0) (Sign_any y) m1 a1
          (Abs_any _) (Abs_any _) (fun W => Cmp_any _ _ W (hab.mono (by omega)) (hay.mono (by omega))) (fun W => by have := Sign_any (x.fmod y) W; rwa [hr0] at this ⊢) k1 d2 d3 g3 (Sign_any 0) (Sign_any 0) k2 (fun W => Of_any 1 W (by omega) (by omega)) k3
      · exact Quot_rest x y (x.fdiv y) (x.fmod y) (x.fdiv y * y) ((x.fmod y).natAbs : Int) (y.natAbs : Int) _ _ _ 0 0 1 y.sign _ w hsb hsb2 hcn HAW HRI (fun W => DivMod_any x y W (hx.mono (by omega)) (hy.mono (by omega)) hy0) (Sign_any y) m1 a1
          (Abs_any _) (Abs_any _) (fun W => Cmp_any _ _ W (hab.mono (by omega)) (hay.mono (by omega))) (fun W => by have := Sign_any (x.fmod y) W; rwa [hf.2 hr0] at this) k1 d2 d3 g3 (Sign_any 0) (Sign_any 0) k2 (fun W => Of_any 1 W (by omega) (by omega)) k3
end Go.Proofs.YtboolbcckfldaaaDoor
