import Derived.Test.YtboolbcckfldaaaDoorLawRoots
import Derived.Test.YtboolbcckfldaaaDoorDec
namespace Go.Proofs.YtboolbcckfldaaaDoor
open Go.RowKit
set_option linter.unusedVariables false
set_option linter.unusedSimpArgs false

set_option maxHeartbeats 1000000 in
set_option maxRecDepth 100000 in
theorem Text_no (nb : Bool) (sa s : ByteArray) (w : World)
    (HAW : ∀ W, Below w.heap.size w W → Calls Tryd.prog 10 #[] W (RetB true W))
    (HRI : ∀ (A : Option Addr) c W, RdI W A [(nb, sa)] → Calls Tryd.prog 22 #[.slice A 1 c] W (RetB false W)) :
    Calls Tryd.prog 8 #[.agg #[.bool nb, .string sa], .string s] w (RetB true w) := by
  replace HAW := Lib.hid HAW
  replace HRI := Lib.hid HRI
  go_enter Tryd.func8, Tryd.ntmps8
  go_wp2_with fail
  have t2 := Ob.new (w) 23 #[.bool nb, .string sa]
  have bl := ((Below.refl w.heap.size w).alloc (Nat.le_refl _) (.cells #[.bool nb, .string sa] 23))
  try simp only [World.size_alloc] at t2
  generalize World.alloc w _ = W1 at t2 bl ⊢
  refine (HAW.out W1 bl).mono ?_
  rintro e W2 ⟨rfl, hb⟩
  have t2 := t2.below hb t2.lt
  have bl := bl.trans (Below.mono hb bl.size)
  clear hb
  obtain ⟨c0_0, c0_1⟩ := t2.cells2
  go_wp2_with fail
  clear c0_0 c0_1
  have t2 := (t2.alloc (.cells #[.bool nb, .string sa] 23))
  have t15 := Ob.new (W2) 23 #[.bool nb, .string sa]
  have bl := (bl.alloc (by have := bl.size; (try simp only [World.size_alloc] at *); omega) (.cells #[.bool nb, .string sa] 23))
  try simp only [World.size_alloc] at t2 t15
  generalize hn3 : W2.heap.size = bk3 at t15 ⊢
  clear hn3
  generalize World.alloc W2 _ = W3 at t2 t15 bl ⊢
  refine (HRI.out _ 1 W3 (rdi_one t15)).mono ?_
  rintro e W4 ⟨rfl, hb⟩
  have t2 := t2.below hb t2.lt
  have t15 := t15.below hb t15.lt
  have bl := bl.trans (Below.mono hb bl.size)
  clear hb
  go_wp2_with fail
  go_ret
  exact ⟨rfl, bl⟩

set_option maxHeartbeats 1000000 in
set_option maxRecDepth 100000 in
theorem Text_long (nb : Bool) (sa s : ByteArray) (w : World) (hl : 500 < s.size)
    (HAW : ∀ W, Below w.heap.size w W → Calls Tryd.prog 10 #[] W (RetB true W))
    (HRI : ∀ (A : Option Addr) c W, RdI W A [(nb, sa)] → Calls Tryd.prog 22 #[.slice A 1 c] W (RetB true W)) :
    Calls Tryd.prog 8 #[.agg #[.bool nb, .string sa], .string s] w (RetB true w) := by
  have hl' : (500 : Int) < s.size := by omega
  replace HAW := Lib.hid HAW
  replace HRI := Lib.hid HRI
  go_enter Tryd.func8, Tryd.ntmps8
  go_wp2_with fail
  have t2 := Ob.new (w) 23 #[.bool nb, .string sa]
  have bl := ((Below.refl w.heap.size w).alloc (Nat.le_refl _) (.cells #[.bool nb, .string sa] 23))
  try simp only [World.size_alloc] at t2
  generalize World.alloc w _ = W1 at t2 bl ⊢
  refine (HAW.out W1 bl).mono ?_
  rintro e W2 ⟨rfl, hb⟩
  have t2 := t2.below hb t2.lt
  have bl := bl.trans (Below.mono hb bl.size)
  clear hb
  obtain ⟨c0_0, c0_1⟩ := t2.cells2
  go_wp2_with fail
  clear c0_0 c0_1
  have t2 := (t2.alloc (.cells #[.bool nb, .string sa] 23))
  have t15 := Ob.new (W2) 23 #[.bool nb, .string sa]
  have bl := (bl.alloc (by have := bl.size; (try simp only [World.size_alloc] at *); omega) (.cells #[.bool nb, .string sa] 23))
  try simp only [World.size_alloc] at t2 t15
  generalize hn3 : W2.heap.size = bk3 at t15 ⊢
  clear hn3
  generalize World.alloc W2 _ = W3 at t2 t15 bl ⊢
  refine (HRI.out _ 1 W3 (rdi_one t15)).mono ?_
  rintro e W4 ⟨rfl, hb⟩
  have t2 := t2.below hb t2.lt
  have t15 := t15.below hb t15.lt
  have bl := bl.trans (Below.mono hb bl.size)
  clear hb
  go_wp2_with fail
  go_ret
  exact ⟨rfl, bl⟩

set_option maxHeartbeats 4000000 in
set_option maxRecDepth 100000 in
theorem Text_ge (z x bk e g : Int) (nb : Bool) (sa p s : ByteArray) (w : World)   (hl : s.size ≤ 500)
    (HAW : ∀ W, Below w.heap.size w W → Calls Tryd.prog 10 #[] W (RetB true W))
    (HRI : ∀ (A : Option Addr) c W, RdI W A [(sg z, mg z)] → Calls Tryd.prog 22 #[.slice A 1 c] W (RetB true W))
    (P1 : ∀ W, Below w.heap.size w W → Calls Tryd.prog 29 #[vI z] W (fun e w' => e = .returned (.string p) ∧ Below W.heap.size W w'))
    (P2 : ∀ W, Calls Tryd.prog 32 #[vI z] W (fun e w' => e = .returned (.string p) ∧ Below W.heap.size W w'))
    (Q1 : ∀ W, Calls Tryd.prog 30 #[.string s] W (RetIE x 0 W))
    (Q2 : ∀ W, Calls Tryd.prog 31 #[.string s] W (RetIE x 0 W))
    (Q3 : ∀ W, Calls Tryd.prog 30 #[.string p] W (RetIE z 0 W))
    (V1 : ∀ W, Calls Tryd.prog 33 #[vI z] W (RetB true W))
    (P3 : ∀ W, Below w.heap.size w W → 0 = 0 → Calls Tryd.prog 29 #[vI x] W (fun e w' => e = .returned (.string s) ∧ Below W.heap.size W w')) :
    Calls Tryd.prog 8 #[vI z, .string s] w (RetB true w) := by
  have hl' : ¬ (500 : Int) < s.size := by omega
  replace P3 := fun W h => fun (h2 : 0 = 0) => P3 W h h2
  replace HAW := Lib.hid HAW
  replace HRI := Lib.hid HRI
  replace P1 := Lib.hid P1
  replace P2 := Lib.hid P2
  replace Q1 := Lib.hid Q1
  replace Q2 := Lib.hid Q2
  replace Q3 := Lib.hid Q3
  replace V1 := Lib.hid V1
  replace P3 := Lib.hid P3
  go_enter Tryd.func8, Tryd.ntmps8
  go_wp2_with fail
  have t2 := Ob.new (w) 23 #[.bool (sg z), .string (mg z)]
  have bl := ((Below.refl w.heap.size w).alloc (Nat.le_refl _) (.cells #[.bool (sg z), .string (mg z)] 23))
  try simp only [World.size_alloc] at t2
  generalize World.alloc w _ = W1 at t2 bl ⊢
  refine (HAW.out W1 bl).mono ?_
  rintro e W2 ⟨rfl, hb⟩
  have t2 := t2.below hb t2.lt
  have bl := bl.trans (Below.mono hb bl.size)
  clear hb
  obtain ⟨c0_0, c0_1⟩ := t2.cells2
  go_wp2_with fail
  clear c0_0 c0_1
  have t2 := (t2.alloc (.cells #[.bool (sg z), .string (mg z)] 23))
  have t15 := Ob.new (W2) 23 #[.bool (sg z), .string (mg z)]
  have bl := (bl.alloc (by have := bl.size; (try simp only [World.size_alloc] at *); omega) (.cells #[.bool (sg z), .string (mg z)] 23))
  try simp only [World.size_alloc] at t2 t15
  generalize hn3 : W2.heap.size = bk3 at t15 ⊢
  clear hn3
  generalize World.alloc W2 _ = W3 at t2 t15 bl ⊢
  refine (HRI.out _ 1 W3 (rdi_one t15)).mono ?_
  rintro e W4 ⟨rfl, hb⟩
  have t2 := t2.below hb t2.lt
  have t15 := t15.below hb t15.lt
  have bl := bl.trans (Below.mono hb bl.size)
  clear hb
  obtain ⟨c0_0, c0_1⟩ := t2.cells2
  go_wp2_with fail
  clear c0_0 c0_1
  refine (P1.out W4 bl).mono ?_
  rintro e W5 ⟨rfl, hb⟩
  have t2 := t2.below hb t2.lt
  have t15 := t15.below hb t15.lt
  have bl := bl.trans (Below.mono hb bl.size)
  clear hb
  go_wp2_with fail
  refine (Q1.out W5).mono ?_
  rintro e W6 ⟨rfl, hb⟩
  have t2 := t2.below hb t2.lt
  have t15 := t15.below hb t15.lt
  have bl := bl.trans (Below.mono hb bl.size)
  clear hb
  go_wp2_with fail
  have t2 := (t2.alloc (.cells #[.bool (sg x), .string (mg x)] 23))
  have t15 := (t15.alloc (.cells #[.bool (sg x), .string (mg x)] 23))
  have t6 := Ob.new (W6) 23 #[.bool (sg x), .string (mg x)]
  have bl := (bl.alloc (by have := bl.size; (try simp only [World.size_alloc] at *); omega) (.cells #[.bool (sg x), .string (mg x)] 23))
  try simp only [World.size_alloc] at t2 t15 t6
  generalize hn7 : W6.heap.size = bk7 at t6 ⊢
  clear hn7
  generalize World.alloc W6 _ = W7 at t2 t15 t6 bl ⊢
  refine (Q2.out W7).mono ?_
  rintro e W8 ⟨rfl, hb⟩
  have t2 := t2.below hb t2.lt
  have t15 := t15.below hb t15.lt
  have t6 := t6.below hb t6.lt
  have bl := bl.trans (Below.mono hb bl.size)
  clear hb
  go_wp2_with fail
  have t2 := (t2.alloc (.cells #[.bool (sg x), .string (mg x)] 23))
  have t15 := (t15.alloc (.cells #[.bool (sg x), .string (mg x)] 23))
  have t6 := (t6.alloc (.cells #[.bool (sg x), .string (mg x)] 23))
  have t8 := Ob.new (W8) 23 #[.bool (sg x), .string (mg x)]
  have bl := (bl.alloc (by have := bl.size; (try simp only [World.size_alloc] at *); omega) (.cells #[.bool (sg x), .string (mg x)] 23))
  try simp only [World.size_alloc] at t2 t15 t6 t8
  generalize hn9 : W8.heap.size = bk9 at t8 ⊢
  clear hn9
  generalize World.alloc W8 _ = W9 at t2 t15 t6 t8 bl ⊢
  refine (Q3.out W9).mono ?_
  rintro e W10 ⟨rfl, hb⟩
  have t2 := t2.below hb t2.lt
  have t15 := t15.below hb t15.lt
  have t6 := t6.below hb t6.lt
  have t8 := t8.below hb t8.lt
  have bl := bl.trans (Below.mono hb bl.size)
  clear hb
  obtain ⟨c0_0, c0_1⟩ := (t2.alloc (.cells #[.bool (sg z), .string (mg z)] 23)).cells2
  go_wp2_with fail
  clear c0_0 c0_1
  have t2 := (t2.alloc (.cells #[.bool (sg z), .string (mg z)] 23))
  have t15 := (t15.alloc (.cells #[.bool (sg z), .string (mg z)] 23))
  have t6 := (t6.alloc (.cells #[.bool (sg z), .string (mg z)] 23))
  have t8 := (t8.alloc (.cells #[.bool (sg z), .string (mg z)] 23))
  have t10 := Ob.new (W10) 23 #[.bool (sg z), .string (mg z)]
  have bl := (bl.alloc (by have := bl.size; (try simp only [World.size_alloc] at *); omega) (.cells #[.bool (sg z), .string (mg z)] 23))
  try simp only [World.size_alloc] at t2 t15 t6 t8 t10
  generalize hn11 : W10.heap.size = bk11 at t10 ⊢
  clear hn11
  generalize World.alloc W10 _ = W11 at t2 t15 t6 t8 t10 bl ⊢
  refine (P2.out W11).mono ?_
  rintro e W12 ⟨rfl, hb⟩
  have t2 := t2.below hb t2.lt
  have t15 := t15.below hb t15.lt
  have t6 := t6.below hb t6.lt
  have t8 := t8.below hb t8.lt
  have t10 := t10.below hb t10.lt
  have bl := bl.trans (Below.mono hb bl.size)
  clear hb
  obtain ⟨c0_0, c0_1⟩ := t6.cells2
  obtain ⟨c1_0, c1_1⟩ := t8.cells2
  obtain ⟨c2_0, c2_1⟩ := t2.cells2
  go_wp2_with fail
  clear c0_0 c0_1 c1_0 c1_1 c2_0 c2_1
  refine (V1.out W12).mono ?_
  rintro e W13 ⟨rfl, hb⟩
  have t2 := t2.below hb t2.lt
  have t15 := t15.below hb t15.lt
  have t6 := t6.below hb t6.lt
  have t8 := t8.below hb t8.lt
  have t10 := t10.below hb t10.lt
  have bl := bl.trans (Below.mono hb bl.size)
  clear hb
  obtain ⟨c0_0, c0_1⟩ := t10.cells2
  obtain ⟨c1_0, c1_1⟩ := t2.cells2
  obtain ⟨c2_0, c2_1⟩ := t6.cells2
  go_wp2_with fail
  clear c0_0 c0_1 c1_0 c1_1 c2_0 c2_1
  refine (P3.out W13 bl trivial).mono ?_
  rintro e W14 ⟨rfl, hb⟩
  have t2 := t2.below hb t2.lt
  have t15 := t15.below hb t15.lt
  have t6 := t6.below hb t6.lt
  have t8 := t8.below hb t8.lt
  have t10 := t10.below hb t10.lt
  have bl := bl.trans (Below.mono hb bl.size)
  clear hb
  go_wp2_with fail
  go_ret
  exact ⟨rfl, bl⟩
set_option maxHeartbeats 4000000 in
set_option maxRecDepth 100000 in
theorem Text_gn (z x bk e g : Int) (nb : Bool) (sa p s : ByteArray) (w : World) (he : ¬ e = 0) (hl : s.size ≤ 500)
    (HAW : ∀ W, Below w.heap.size w W → Calls Tryd.prog 10 #[] W (RetB true W))
    (HRI : ∀ (A : Option Addr) c W, RdI W A [(sg z, mg z)] → Calls Tryd.prog 22 #[.slice A 1 c] W (RetB true W))
    (P1 : ∀ W, Below w.heap.size w W → Calls Tryd.prog 29 #[vI z] W (fun e w' => e = .returned (.string p) ∧ Below W.heap.size W w'))
    (P2 : ∀ W, Calls Tryd.prog 32 #[vI z] W (fun e w' => e = .returned (.string p) ∧ Below W.heap.size W w'))
    (Q1 : ∀ W, Calls Tryd.prog 30 #[.string s] W (RetIE x e W))
    (Q2 : ∀ W, Calls Tryd.prog 31 #[.string s] W (RetIE x e W))
    (Q3 : ∀ W, Calls Tryd.prog 30 #[.string p] W (RetIE z 0 W))
    (V1 : ∀ W, Calls Tryd.prog 33 #[vI z] W (RetB true W))
    (P3 : ∀ W, Below w.heap.size w W → e = 0 → Calls Tryd.prog 29 #[vI x] W (fun e w' => e = .returned (.string s) ∧ Below W.heap.size W w')) :
    Calls Tryd.prog 8 #[vI z, .string s] w (RetB true w) := by
  have hl' : ¬ (500 : Int) < s.size := by omega
  replace P3 := fun W h => fun (h2 : e = 0) => P3 W h h2
  replace HAW := Lib.hid HAW
  replace HRI := Lib.hid HRI
  replace P1 := Lib.hid P1
  replace P2 := Lib.hid P2
  replace Q1 := Lib.hid Q1
  replace Q2 := Lib.hid Q2
  replace Q3 := Lib.hid Q3
  replace V1 := Lib.hid V1
  replace P3 := Lib.hid P3
  go_enter Tryd.func8, Tryd.ntmps8
  go_wp2_with fail
  have t2 := Ob.new (w) 23 #[.bool (sg z), .string (mg z)]
  have bl := ((Below.refl w.heap.size w).alloc (Nat.le_refl _) (.cells #[.bool (sg z), .string (mg z)] 23))
  try simp only [World.size_alloc] at t2
  generalize World.alloc w _ = W1 at t2 bl ⊢
  refine (HAW.out W1 bl).mono ?_
  rintro e W2 ⟨rfl, hb⟩
  have t2 := t2.below hb t2.lt
  have bl := bl.trans (Below.mono hb bl.size)
  clear hb
  obtain ⟨c0_0, c0_1⟩ := t2.cells2
  go_wp2_with fail
  clear c0_0 c0_1
  have t2 := (t2.alloc (.cells #[.bool (sg z), .string (mg z)] 23))
  have t15 := Ob.new (W2) 23 #[.bool (sg z), .string (mg z)]
  have bl := (bl.alloc (by have := bl.size; (try simp only [World.size_alloc] at *); omega) (.cells #[.bool (sg z), .string (mg z)] 23))
  try simp only [World.size_alloc] at t2 t15
  generalize hn3 : W2.heap.size = bk3 at t15 ⊢
  clear hn3
  generalize World.alloc W2 _ = W3 at t2 t15 bl ⊢
  refine (HRI.out _ 1 W3 (rdi_one t15)).mono ?_
  rintro e W4 ⟨rfl, hb⟩
  have t2 := t2.below hb t2.lt
  have t15 := t15.below hb t15.lt
  have bl := bl.trans (Below.mono hb bl.size)
  clear hb
  obtain ⟨c0_0, c0_1⟩ := t2.cells2
  go_wp2_with fail
  clear c0_0 c0_1
  refine (P1.out W4 bl).mono ?_
  rintro e W5 ⟨rfl, hb⟩
  have t2 := t2.below hb t2.lt
  have t15 := t15.below hb t15.lt
  have bl := bl.trans (Below.mono hb bl.size)
  clear hb
  go_wp2_with fail
  refine (Q1.out W5).mono ?_
  rintro e W6 ⟨rfl, hb⟩
  have t2 := t2.below hb t2.lt
  have t15 := t15.below hb t15.lt
  have bl := bl.trans (Below.mono hb bl.size)
  clear hb
  go_wp2_with fail
  have t2 := (t2.alloc (.cells #[.bool (sg x), .string (mg x)] 23))
  have t15 := (t15.alloc (.cells #[.bool (sg x), .string (mg x)] 23))
  have t6 := Ob.new (W6) 23 #[.bool (sg x), .string (mg x)]
  have bl := (bl.alloc (by have := bl.size; (try simp only [World.size_alloc] at *); omega) (.cells #[.bool (sg x), .string (mg x)] 23))
  try simp only [World.size_alloc] at t2 t15 t6
  generalize hn7 : W6.heap.size = bk7 at t6 ⊢
  clear hn7
  generalize World.alloc W6 _ = W7 at t2 t15 t6 bl ⊢
  refine (Q2.out W7).mono ?_
  rintro e W8 ⟨rfl, hb⟩
  have t2 := t2.below hb t2.lt
  have t15 := t15.below hb t15.lt
  have t6 := t6.below hb t6.lt
  have bl := bl.trans (Below.mono hb bl.size)
  clear hb
  go_wp2_with fail
  have t2 := (t2.alloc (.cells #[.bool (sg x), .string (mg x)] 23))
  have t15 := (t15.alloc (.cells #[.bool (sg x), .string (mg x)] 23))
  have t6 := (t6.alloc (.cells #[.bool (sg x), .string (mg x)] 23))
  have t8 := Ob.new (W8) 23 #[.bool (sg x), .string (mg x)]
  have bl := (bl.alloc (by have := bl.size; (try simp only [World.size_alloc] at *); omega) (.cells #[.bool (sg x), .string (mg x)] 23))
  try simp only [World.size_alloc] at t2 t15 t6 t8
  generalize hn9 : W8.heap.size = bk9 at t8 ⊢
  clear hn9
  generalize World.alloc W8 _ = W9 at t2 t15 t6 t8 bl ⊢
  refine (Q3.out W9).mono ?_
  rintro e W10 ⟨rfl, hb⟩
  have t2 := t2.below hb t2.lt
  have t15 := t15.below hb t15.lt
  have t6 := t6.below hb t6.lt
  have t8 := t8.below hb t8.lt
  have bl := bl.trans (Below.mono hb bl.size)
  clear hb
  obtain ⟨c0_0, c0_1⟩ := (t2.alloc (.cells #[.bool (sg z), .string (mg z)] 23)).cells2
  go_wp2_with fail
  clear c0_0 c0_1
  have t2 := (t2.alloc (.cells #[.bool (sg z), .string (mg z)] 23))
  have t15 := (t15.alloc (.cells #[.bool (sg z), .string (mg z)] 23))
  have t6 := (t6.alloc (.cells #[.bool (sg z), .string (mg z)] 23))
  have t8 := (t8.alloc (.cells #[.bool (sg z), .string (mg z)] 23))
  have t10 := Ob.new (W10) 23 #[.bool (sg z), .string (mg z)]
  have bl := (bl.alloc (by have := bl.size; (try simp only [World.size_alloc] at *); omega) (.cells #[.bool (sg z), .string (mg z)] 23))
  try simp only [World.size_alloc] at t2 t15 t6 t8 t10
  generalize hn11 : W10.heap.size = bk11 at t10 ⊢
  clear hn11
  generalize World.alloc W10 _ = W11 at t2 t15 t6 t8 t10 bl ⊢
  refine (P2.out W11).mono ?_
  rintro e W12 ⟨rfl, hb⟩
  have t2 := t2.below hb t2.lt
  have t15 := t15.below hb t15.lt
  have t6 := t6.below hb t6.lt
  have t8 := t8.below hb t8.lt
  have t10 := t10.below hb t10.lt
  have bl := bl.trans (Below.mono hb bl.size)
  clear hb
  obtain ⟨c0_0, c0_1⟩ := t6.cells2
  obtain ⟨c1_0, c1_1⟩ := t8.cells2
  obtain ⟨c2_0, c2_1⟩ := t2.cells2
  go_wp2_with fail
  clear c0_0 c0_1 c1_0 c1_1 c2_0 c2_1
  refine (V1.out W12).mono ?_
  rintro e W13 ⟨rfl, hb⟩
  have t2 := t2.below hb t2.lt
  have t15 := t15.below hb t15.lt
  have t6 := t6.below hb t6.lt
  have t8 := t8.below hb t8.lt
  have t10 := t10.below hb t10.lt
  have bl := bl.trans (Below.mono hb bl.size)
  clear hb
  obtain ⟨c0_0, c0_1⟩ := t10.cells2
  obtain ⟨c1_0, c1_1⟩ := t2.cells2
  go_wp2_with fail
  clear c0_0 c0_1 c1_0 c1_1
  go_ret
  exact ⟨rfl, bl⟩
set_option maxHeartbeats 4000000 in
set_option maxRecDepth 100000 in
theorem Text_be (z x bk e g : Int) (nb : Bool) (sa p s : ByteArray) (w : World)   (hl : s.size ≤ 500)
    (HAW : ∀ W, Below w.heap.size w W → Calls Tryd.prog 10 #[] W (RetB true W))
    (HRI : ∀ (A : Option Addr) c W, RdI W A [(nb, sa)] → Calls Tryd.prog 22 #[.slice A 1 c] W (RetB true W))
    (P1 : ∀ W, Below w.heap.size w W → Calls Tryd.prog 29 #[.agg #[.bool nb, .string sa]] W (fun e w' => e = .returned (.string p) ∧ Below W.heap.size W w'))
    (P2 : ∀ W, Calls Tryd.prog 32 #[.agg #[.bool nb, .string sa]] W (fun e w' => e = .returned (.string p) ∧ Below W.heap.size W w'))
    (Q1 : ∀ W, Calls Tryd.prog 30 #[.string s] W (RetIE x 0 W))
    (Q2 : ∀ W, Calls Tryd.prog 31 #[.string s] W (RetIE x 0 W))
    (Q3 : ∀ W, Calls Tryd.prog 30 #[.string p] W (RetIE bk g W))
    (V1 : ∀ W, Calls Tryd.prog 33 #[.agg #[.bool nb, .string sa]] W (RetB false W))
    (P3 : ∀ W, Below w.heap.size w W → 0 = 0 → Calls Tryd.prog 29 #[vI x] W (fun e w' => e = .returned (.string s) ∧ Below W.heap.size W w')) :
    Calls Tryd.prog 8 #[.agg #[.bool nb, .string sa], .string s] w (RetB true w) := by
  have hl' : ¬ (500 : Int) < s.size := by omega
  replace P3 := fun W h => fun (h2 : 0 = 0) => P3 W h h2
  replace HAW := Lib.hid HAW
  replace HRI := Lib.hid HRI
  replace P1 := Lib.hid P1
  replace P2 := Lib.hid P2
  replace Q1 := Lib.hid Q1
  replace Q2 := Lib.hid Q2
  replace Q3 := Lib.hid Q3
  replace V1 := Lib.hid V1
  replace P3 := Lib.hid P3
  go_enter Tryd.func8, Tryd.ntmps8
  go_wp2_with fail
  have t2 := Ob.new (w) 23 #[.bool nb, .string sa]
  have bl := ((Below.refl w.heap.size w).alloc (Nat.le_refl _) (.cells #[.bool nb, .string sa] 23))
  try simp only [World.size_alloc] at t2
  generalize World.alloc w _ = W1 at t2 bl ⊢
  refine (HAW.out W1 bl).mono ?_
  rintro e W2 ⟨rfl, hb⟩
  have t2 := t2.below hb t2.lt
  have bl := bl.trans (Below.mono hb bl.size)
  clear hb
  obtain ⟨c0_0, c0_1⟩ := t2.cells2
  go_wp2_with fail
  clear c0_0 c0_1
  have t2 := (t2.alloc (.cells #[.bool nb, .string sa] 23))
  have t15 := Ob.new (W2) 23 #[.bool nb, .string sa]
  have bl := (bl.alloc (by have := bl.size; (try simp only [World.size_alloc] at *); omega) (.cells #[.bool nb, .string sa] 23))
  try simp only [World.size_alloc] at t2 t15
  generalize hn3 : W2.heap.size = bk3 at t15 ⊢
  clear hn3
  generalize World.alloc W2 _ = W3 at t2 t15 bl ⊢
  refine (HRI.out _ 1 W3 (rdi_one t15)).mono ?_
  rintro e W4 ⟨rfl, hb⟩
  have t2 := t2.below hb t2.lt
  have t15 := t15.below hb t15.lt
  have bl := bl.trans (Below.mono hb bl.size)
  clear hb
  obtain ⟨c0_0, c0_1⟩ := t2.cells2
  go_wp2_with fail
  clear c0_0 c0_1
  refine (P1.out W4 bl).mono ?_
  rintro e W5 ⟨rfl, hb⟩
  have t2 := t2.below hb t2.lt
  have t15 := t15.below hb t15.lt
  have bl := bl.trans (Below.mono hb bl.size)
  clear hb
  go_wp2_with fail
  refine (Q1.out W5).mono ?_
  rintro e W6 ⟨rfl, hb⟩
  have t2 := t2.below hb t2.lt
  have t15 := t15.below hb t15.lt
  have bl := bl.trans (Below.mono hb bl.size)
  clear hb
  go_wp2_with fail
  have t2 := (t2.alloc (.cells #[.bool (sg x), .string (mg x)] 23))
  have t15 := (t15.alloc (.cells #[.bool (sg x), .string (mg x)] 23))
  have t6 := Ob.new (W6) 23 #[.bool (sg x), .string (mg x)]
  have bl := (bl.alloc (by have := bl.size; (try simp only [World.size_alloc] at *); omega) (.cells #[.bool (sg x), .string (mg x)] 23))
  try simp only [World.size_alloc] at t2 t15 t6
  generalize hn7 : W6.heap.size = bk7 at t6 ⊢
  clear hn7
  generalize World.alloc W6 _ = W7 at t2 t15 t6 bl ⊢
  refine (Q2.out W7).mono ?_
  rintro e W8 ⟨rfl, hb⟩
  have t2 := t2.below hb t2.lt
  have t15 := t15.below hb t15.lt
  have t6 := t6.below hb t6.lt
  have bl := bl.trans (Below.mono hb bl.size)
  clear hb
  go_wp2_with fail
  have t2 := (t2.alloc (.cells #[.bool (sg x), .string (mg x)] 23))
  have t15 := (t15.alloc (.cells #[.bool (sg x), .string (mg x)] 23))
  have t6 := (t6.alloc (.cells #[.bool (sg x), .string (mg x)] 23))
  have t8 := Ob.new (W8) 23 #[.bool (sg x), .string (mg x)]
  have bl := (bl.alloc (by have := bl.size; (try simp only [World.size_alloc] at *); omega) (.cells #[.bool (sg x), .string (mg x)] 23))
  try simp only [World.size_alloc] at t2 t15 t6 t8
  generalize hn9 : W8.heap.size = bk9 at t8 ⊢
  clear hn9
  generalize World.alloc W8 _ = W9 at t2 t15 t6 t8 bl ⊢
  refine (Q3.out W9).mono ?_
  rintro e W10 ⟨rfl, hb⟩
  have t2 := t2.below hb t2.lt
  have t15 := t15.below hb t15.lt
  have t6 := t6.below hb t6.lt
  have t8 := t8.below hb t8.lt
  have bl := bl.trans (Below.mono hb bl.size)
  clear hb
  obtain ⟨c0_0, c0_1⟩ := (t2.alloc (.cells #[.bool (sg bk), .string (mg bk)] 23)).cells2
  go_wp2_with fail
  clear c0_0 c0_1
  have t2 := (t2.alloc (.cells #[.bool (sg bk), .string (mg bk)] 23))
  have t15 := (t15.alloc (.cells #[.bool (sg bk), .string (mg bk)] 23))
  have t6 := (t6.alloc (.cells #[.bool (sg bk), .string (mg bk)] 23))
  have t8 := (t8.alloc (.cells #[.bool (sg bk), .string (mg bk)] 23))
  have t10 := Ob.new (W10) 23 #[.bool (sg bk), .string (mg bk)]
  have bl := (bl.alloc (by have := bl.size; (try simp only [World.size_alloc] at *); omega) (.cells #[.bool (sg bk), .string (mg bk)] 23))
  try simp only [World.size_alloc] at t2 t15 t6 t8 t10
  generalize hn11 : W10.heap.size = bk11 at t10 ⊢
  clear hn11
  generalize World.alloc W10 _ = W11 at t2 t15 t6 t8 t10 bl ⊢
  refine (P2.out W11).mono ?_
  rintro e W12 ⟨rfl, hb⟩
  have t2 := t2.below hb t2.lt
  have t15 := t15.below hb t15.lt
  have t6 := t6.below hb t6.lt
  have t8 := t8.below hb t8.lt
  have t10 := t10.below hb t10.lt
  have bl := bl.trans (Below.mono hb bl.size)
  clear hb
  obtain ⟨c0_0, c0_1⟩ := t6.cells2
  obtain ⟨c1_0, c1_1⟩ := t8.cells2
  obtain ⟨c2_0, c2_1⟩ := t2.cells2
  go_wp2_with fail
  clear c0_0 c0_1 c1_0 c1_1 c2_0 c2_1
  refine (V1.out W12).mono ?_
  rintro e W13 ⟨rfl, hb⟩
  have t2 := t2.below hb t2.lt
  have t15 := t15.below hb t15.lt
  have t6 := t6.below hb t6.lt
  have t8 := t8.below hb t8.lt
  have t10 := t10.below hb t10.lt
  have bl := bl.trans (Below.mono hb bl.size)
  clear hb
  obtain ⟨c0_0, c0_1⟩ := t10.cells2
  obtain ⟨c1_0, c1_1⟩ := t2.cells2
  obtain ⟨c2_0, c2_1⟩ := t6.cells2
  go_wp2_with fail
  clear c0_0 c0_1 c1_0 c1_1 c2_0 c2_1
  refine (P3.out W13 bl trivial).mono ?_
  rintro e W14 ⟨rfl, hb⟩
  have t2 := t2.below hb t2.lt
  have t15 := t15.below hb t15.lt
  have t6 := t6.below hb t6.lt
  have t8 := t8.below hb t8.lt
  have t10 := t10.below hb t10.lt
  have bl := bl.trans (Below.mono hb bl.size)
  clear hb
  go_wp2_with fail
  go_ret
  exact ⟨rfl, bl⟩
set_option maxHeartbeats 4000000 in
set_option maxRecDepth 100000 in
theorem Text_bn (z x bk e g : Int) (nb : Bool) (sa p s : ByteArray) (w : World) (he : ¬ e = 0) (hl : s.size ≤ 500)
    (HAW : ∀ W, Below w.heap.size w W → Calls Tryd.prog 10 #[] W (RetB true W))
    (HRI : ∀ (A : Option Addr) c W, RdI W A [(nb, sa)] → Calls Tryd.prog 22 #[.slice A 1 c] W (RetB true W))
    (P1 : ∀ W, Below w.heap.size w W → Calls Tryd.prog 29 #[.agg #[.bool nb, .string sa]] W (fun e w' => e = .returned (.string p) ∧ Below W.heap.size W w'))
    (P2 : ∀ W, Calls Tryd.prog 32 #[.agg #[.bool nb, .string sa]] W (fun e w' => e = .returned (.string p) ∧ Below W.heap.size W w'))
    (Q1 : ∀ W, Calls Tryd.prog 30 #[.string s] W (RetIE x e W))
    (Q2 : ∀ W, Calls Tryd.prog 31 #[.string s] W (RetIE x e W))
    (Q3 : ∀ W, Calls Tryd.prog 30 #[.string p] W (RetIE bk g W))
    (V1 : ∀ W, Calls Tryd.prog 33 #[.agg #[.bool nb, .string sa]] W (RetB false W))
    (P3 : ∀ W, Below w.heap.size w W → e = 0 → Calls Tryd.prog 29 #[vI x] W (fun e w' => e = .returned (.string s) ∧ Below W.heap.size W w')) :
    Calls Tryd.prog 8 #[.agg #[.bool nb, .string sa], .string s] w (RetB true w) := by
  have hl' : ¬ (500 : Int) < s.size := by omega
  replace P3 := fun W h => fun (h2 : e = 0) => P3 W h h2
  replace HAW := Lib.hid HAW
  replace HRI := Lib.hid HRI
  replace P1 := Lib.hid P1
  replace P2 := Lib.hid P2
  replace Q1 := Lib.hid Q1
  replace Q2 := Lib.hid Q2
  replace Q3 := Lib.hid Q3
  replace V1 := Lib.hid V1
  replace P3 := Lib.hid P3
  go_enter Tryd.func8, Tryd.ntmps8
  go_wp2_with fail
  have t2 := Ob.new (w) 23 #[.bool nb, .string sa]
  have bl := ((Below.refl w.heap.size w).alloc (Nat.le_refl _) (.cells #[.bool nb, .string sa] 23))
  try simp only [World.size_alloc] at t2
  generalize World.alloc w _ = W1 at t2 bl ⊢
  refine (HAW.out W1 bl).mono ?_
  rintro e W2 ⟨rfl, hb⟩
  have t2 := t2.below hb t2.lt
  have bl := bl.trans (Below.mono hb bl.size)
  clear hb
  obtain ⟨c0_0, c0_1⟩ := t2.cells2
  go_wp2_with fail
  clear c0_0 c0_1
  have t2 := (t2.alloc (.cells #[.bool nb, .string sa] 23))
  have t15 := Ob.new (W2) 23 #[.bool nb, .string sa]
  have bl := (bl.alloc (by have := bl.size; (try simp only [World.size_alloc] at *); omega) (.cells #[.bool nb, .string sa] 23))
  try simp only [World.size_alloc] at t2 t15
  generalize hn3 : W2.heap.size = bk3 at t15 ⊢
  clear hn3
  generalize World.alloc W2 _ = W3 at t2 t15 bl ⊢
  refine (HRI.out _ 1 W3 (rdi_one t15)).mono ?_
  rintro e W4 ⟨rfl, hb⟩
  have t2 := t2.below hb t2.lt
  have t15 := t15.below hb t15.lt
  have bl := bl.trans (Below.mono hb bl.size)
  clear hb
  obtain ⟨c0_0, c0_1⟩ := t2.cells2
  go_wp2_with fail
  clear c0_0 c0_1
  refine (P1.out W4 bl).mono ?_
  rintro e W5 ⟨rfl, hb⟩
  have t2 := t2.below hb t2.lt
  have t15 := t15.below hb t15.lt
  have bl := bl.trans (Below.mono hb bl.size)
  clear hb
  go_wp2_with fail
  refine (Q1.out W5).mono ?_
  rintro e W6 ⟨rfl, hb⟩
  have t2 := t2.below hb t2.lt
  have t15 := t15.below hb t15.lt
  have bl := bl.trans (Below.mono hb bl.size)
  clear hb
  go_wp2_with fail
  have t2 := (t2.alloc (.cells #[.bool (sg x), .string (mg x)] 23))
  have t15 := (t15.alloc (.cells #[.bool (sg x), .string (mg x)] 23))
  have t6 := Ob.new (W6) 23 #[.bool (sg x), .string (mg x)]
  have bl := (bl.alloc (by have := bl.size; (try simp only [World.size_alloc] at *); omega) (.cells #[.bool (sg x), .string (mg x)] 23))
  try simp only [World.size_alloc] at t2 t15 t6
  generalize hn7 : W6.heap.size = bk7 at t6 ⊢
  clear hn7
  generalize World.alloc W6 _ = W7 at t2 t15 t6 bl ⊢
  refine (Q2.out W7).mono ?_
  rintro e W8 ⟨rfl, hb⟩
  have t2 := t2.below hb t2.lt
  have t15 := t15.below hb t15.lt
  have t6 := t6.below hb t6.lt
  have bl := bl.trans (Below.mono hb bl.size)
  clear hb
  go_wp2_with fail
  have t2 := (t2.alloc (.cells #[.bool (sg x), .string (mg x)] 23))
  have t15 := (t15.alloc (.cells #[.bool (sg x), .string (mg x)] 23))
  have t6 := (t6.alloc (.cells #[.bool (sg x), .string (mg x)] 23))
  have t8 := Ob.new (W8) 23 #[.bool (sg x), .string (mg x)]
  have bl := (bl.alloc (by have := bl.size; (try simp only [World.size_alloc] at *); omega) (.cells #[.bool (sg x), .string (mg x)] 23))
  try simp only [World.size_alloc] at t2 t15 t6 t8
  generalize hn9 : W8.heap.size = bk9 at t8 ⊢
  clear hn9
  generalize World.alloc W8 _ = W9 at t2 t15 t6 t8 bl ⊢
  refine (Q3.out W9).mono ?_
  rintro e W10 ⟨rfl, hb⟩
  have t2 := t2.below hb t2.lt
  have t15 := t15.below hb t15.lt
  have t6 := t6.below hb t6.lt
  have t8 := t8.below hb t8.lt
  have bl := bl.trans (Below.mono hb bl.size)
  clear hb
  obtain ⟨c0_0, c0_1⟩ := (t2.alloc (.cells #[.bool (sg bk), .string (mg bk)] 23)).cells2
  go_wp2_with fail
  clear c0_0 c0_1
  have t2 := (t2.alloc (.cells #[.bool (sg bk), .string (mg bk)] 23))
  have t15 := (t15.alloc (.cells #[.bool (sg bk), .string (mg bk)] 23))
  have t6 := (t6.alloc (.cells #[.bool (sg bk), .string (mg bk)] 23))
  have t8 := (t8.alloc (.cells #[.bool (sg bk), .string (mg bk)] 23))
  have t10 := Ob.new (W10) 23 #[.bool (sg bk), .string (mg bk)]
  have bl := (bl.alloc (by have := bl.size; (try simp only [World.size_alloc] at *); omega) (.cells #[.bool (sg bk), .string (mg bk)] 23))
  try simp only [World.size_alloc] at t2 t15 t6 t8 t10
  generalize hn11 : W10.heap.size = bk11 at t10 ⊢
  clear hn11
  generalize World.alloc W10 _ = W11 at t2 t15 t6 t8 t10 bl ⊢
  refine (P2.out W11).mono ?_
  rintro e W12 ⟨rfl, hb⟩
  have t2 := t2.below hb t2.lt
  have t15 := t15.below hb t15.lt
  have t6 := t6.below hb t6.lt
  have t8 := t8.below hb t8.lt
  have t10 := t10.below hb t10.lt
  have bl := bl.trans (Below.mono hb bl.size)
  clear hb
  obtain ⟨c0_0, c0_1⟩ := t6.cells2
  obtain ⟨c1_0, c1_1⟩ := t8.cells2
  obtain ⟨c2_0, c2_1⟩ := t2.cells2
  go_wp2_with fail
  clear c0_0 c0_1 c1_0 c1_1 c2_0 c2_1
  refine (V1.out W12).mono ?_
  rintro e W13 ⟨rfl, hb⟩
  have t2 := t2.below hb t2.lt
  have t15 := t15.below hb t15.lt
  have t6 := t6.below hb t6.lt
  have t8 := t8.below hb t8.lt
  have t10 := t10.below hb t10.lt
  have bl := bl.trans (Below.mono hb bl.size)
  clear hb
  obtain ⟨c0_0, c0_1⟩ := t10.cells2
  obtain ⟨c1_0, c1_1⟩ := t2.cells2
  go_wp2_with fail
  clear c0_0 c0_1 c1_0 c1_1
  go_ret
  exact ⟨rfl, bl⟩

theorem Bd_num (t : ByteArray) (neg : Bool) (K : Nat) (hl : t.size ≤ K) (hd : AllD t) : Bd K (sgnd neg (numAt t t.size)) := by
  have h := numAt_lt t t.size (fun j _ => hd.dig j)
  have h2 : (10 : Nat) ^ t.size ≤ 256 ^ t.size := Nat.pow_le_pow_left (by decide) _
  have h3 : (256 : Nat) ^ t.size ≤ 256 ^ K := Nat.pow_le_pow_right (by decide) hl
  unfold Bd
  have e : (sgnd neg (numAt t t.size)).natAbs = numAt t t.size := by unfold sgnd; cases neg <;> simp
  rw [e]
  exact Nat.lt_of_lt_of_le h (Nat.le_trans h2 h3)

theorem Text_all (nb : Bool) (sa s : ByteArray) (w : World) (ht : HasTab w) : Calls Tryd.prog 8 #[.agg #[.bool nb, .string sa], .string s] w (RetB true w) := by
  have HAW : ∀ W, Below w.heap.size w W → Calls Tryd.prog 10 #[] W (RetB true W) := fun W h => awake_any W (ht.below h)
  have HRI := fun (A : Option Addr) c W h => few_any A c [(nb, sa)] W h (by simp)
  cases hf : ([(nb, sa)].all fun p => decide (p.2.size ≤ 60)) with
  | false =>
    rw [hf] at HRI
    exact Text_no nb sa s w HAW HRI
  | true =>
    rw [hf] at HRI
    simp only [List.all_cons, List.all_nil, Bool.and_true, decide_eq_true_eq] at hf
    by_cases hl : s.size ≤ 500
    · have Q1 := fun W => Parse_cut s W (by omega)
      have Q2 := fun W => RParse_any s W (by omega)
      have P3 : ∀ W, Below w.heap.size w W → parseE (cutT s) (cutN s) = 0 → Calls Tryd.prog 29 #[vI (parseN (cutT s) (cutN s) (parseE (cutT s) (cutN s)))] W (fun e w' => e = .returned (.string s) ∧ Below W.heap.size W w') := fun W hW he => by
        obtain ⟨h1, h2, h3⟩ := itoa_parse s he
        have hb : Bd 400 (parseN (cutT s) (cutN s) 0) := by unfold parseN; rw [if_pos rfl]; exact Bd_num _ _ 400 h2 h3
        rw [he]
        have h := Print_any (parseN (cutT s) (cutN s) 0) W (hb.mono (by omega)) (ht.below hW)
        unfold strOf at h
        rw [h1] at h
        exact h
      generalize hx : parseN (cutT s) (cutN s) (parseE (cutT s) (cutN s)) = x at Q1 Q2 P3
      generalize he : parseE (cutT s) (cutN s) = e at Q1 Q2 P3
      clear hx he
      cases hv : vld nb sa with
      | true =>
        obtain ⟨e1, e2⟩ := vld_form hv
        generalize ival nb sa = z at *
        subst e1 e2
        have hz : Bd 60 z := (Bd.of_size z).mono hf
        have P1 := fun W (h : Below w.heap.size w W) => Print_any z W (hz.mono (by omega)) (ht.below h)
        have P2 := fun W => RPrint_any z W (hz.mono (by omega))
        have hdl : (Lib.decDigits z.natAbs).length ≤ 400 := Nat.le_trans (dec_len (k := 60) (by omega) hz) (by omega)
        obtain ⟨r1, r2⟩ := parse_itoa z hdl
        have Q3 : ∀ W, Calls Tryd.prog 30 #[.string ⟨(Lib.itoa z).toArray⟩] W (RetIE z 0 W) := fun W => by
          have h := Parse_cut ⟨(Lib.itoa z).toArray⟩ W (by
            rw [str_size]
            unfold Lib.itoa
            by_cases h : z < 0
            · rw [if_pos h]; simp; omega
            · rw [if_neg h, show z.toNat = z.natAbs from by omega]; omega)
          rw [r1, r2] at h
          exact h
        by_cases h0 : e = 0
        · subst h0
          exact Text_ge z x 0 0 0 true .empty _ s w hl HAW HRI P1 P2 Q1 Q2 Q3 (fun W => RValid_yes z W) (fun W h _ => P3 W h (by first | rfl | assumption))
        · exact Text_gn z x 0 e 0 true .empty _ s w h0 hl HAW HRI P1 P2 Q1 Q2 Q3 (fun W => RValid_yes z W) P3
      | false =>
        have P1 := fun W (h : Below w.heap.size w W) => Print_bad nb sa W hv
        have P2 := fun W => RPrint_bad nb sa W hv
        have Q3 := fun W => Parse_cut ⟨#[]⟩ W (by decide)
        by_cases h0 : e = 0
        · subst h0
          exact Text_be 0 x _ 0 _ nb sa _ s w hl HAW HRI P1 P2 Q1 Q2 Q3 (fun W => RValid_no nb sa W hv) (fun W h _ => P3 W h (by first | rfl | assumption))
        · exact Text_bn 0 x _ e _ nb sa _ s w h0 hl HAW HRI P1 P2 Q1 Q2 Q3 (fun W => RValid_no nb sa W hv) P3
    · exact Text_long nb sa s w (by omega) HAW HRI
end Go.Proofs.YtboolbcckfldaaaDoor
