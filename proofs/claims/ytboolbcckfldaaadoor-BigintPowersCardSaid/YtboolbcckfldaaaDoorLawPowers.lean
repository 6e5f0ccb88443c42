import Derived.Test.YtboolbcckfldaaaDoorLawWords
import Derived.Test.YtboolbcckfldaaaDoorRefK
namespace Go.Proofs.YtboolbcckfldaaaDoor
open Go.RowKit
set_option linter.unusedVariables false
set_option linter.unusedSimpArgs false

set_option maxHeartbeats 1000000 in
set_option maxRecDepth 100000 in
theorem Powers_no (n k : Int) (nb : Bool) (s : ByteArray) (w : World)
    (HAW : ∀ W, Below w.heap.size w W → Calls Tryd.prog 10 #[] W (RetB true W))
    (HRI : ∀ (A : Option Addr) c W, RdI W A [(nb, s)] → Calls Tryd.prog 22 #[.slice A 1 c] W (RetB false W)) :
    Calls Tryd.prog 6 #[.int .i64 n, .agg #[.bool nb, .string s], .int .i64 k] w (RetB true w) := by
  replace HAW := Lib.hid HAW
  replace HRI := Lib.hid HRI
  go_enter Tryd.func6, Tryd.ntmps6
  go_wp2_with fail
  have t4 := Ob.new (w) 23 #[.bool nb, .string s]
  have bl := ((Below.refl w.heap.size w).alloc (Nat.le_refl _) (.cells #[.bool nb, .string s] 23))
  try simp only [World.size_alloc] at t4
  generalize World.alloc w _ = W1 at t4 bl ⊢
  refine (HAW.out W1 bl).mono ?_
  rintro e W2 ⟨rfl, hb⟩
  have t4 := t4.below hb t4.lt
  have bl := bl.trans (Below.mono hb bl.size)
  clear hb
  obtain ⟨c0_0, c0_1⟩ := t4.cells2
  go_wp2_with fail
  clear c0_0 c0_1
  have t4 := (t4.alloc (.cells #[.bool nb, .string s] 23))
  have t24 := Ob.new (W2) 23 #[.bool nb, .string s]
  have bl := (bl.alloc (by have := bl.size; (try simp only [World.size_alloc] at *); omega) (.cells #[.bool nb, .string s] 23))
  try simp only [World.size_alloc] at t4 t24
  generalize hn3 : W2.heap.size = bk3 at t24 ⊢
  clear hn3
  generalize World.alloc W2 _ = W3 at t4 t24 bl ⊢
  refine (HRI.out _ 1 W3 (rdi_one t24)).mono ?_
  rintro e W4 ⟨rfl, hb⟩
  have t4 := t4.below hb t4.lt
  have t24 := t24.below hb t24.lt
  have bl := bl.trans (Below.mono hb bl.size)
  clear hb
  go_wp2_with fail
  go_ret
  exact ⟨rfl, bl⟩

set_option maxHeartbeats 1000000 in
set_option maxRecDepth 100000 in
theorem Powers_mid (n k : Int) (nb : Bool) (s : ByteArray) (w : World) (h1 : 12 < k) (h2 : k ≤ 100)
    (HAW : ∀ W, Below w.heap.size w W → Calls Tryd.prog 10 #[] W (RetB true W))
    (HRI : ∀ (A : Option Addr) c W, RdI W A [(nb, s)] → Calls Tryd.prog 22 #[.slice A 1 c] W (RetB true W)) :
    Calls Tryd.prog 6 #[.int .i64 n, .agg #[.bool nb, .string s], .int .i64 k] w (RetB true w) := by
  replace HAW := Lib.hid HAW
  replace HRI := Lib.hid HRI
  go_enter Tryd.func6, Tryd.ntmps6
  go_wp2_with fail
  have t4 := Ob.new (w) 23 #[.bool nb, .string s]
  have bl := ((Below.refl w.heap.size w).alloc (Nat.le_refl _) (.cells #[.bool nb, .string s] 23))
  try simp only [World.size_alloc] at t4
  generalize World.alloc w _ = W1 at t4 bl ⊢
  refine (HAW.out W1 bl).mono ?_
  rintro e W2 ⟨rfl, hb⟩
  have t4 := t4.below hb t4.lt
  have bl := bl.trans (Below.mono hb bl.size)
  clear hb
  obtain ⟨c0_0, c0_1⟩ := t4.cells2
  go_wp2_with fail
  clear c0_0 c0_1
  have t4 := (t4.alloc (.cells #[.bool nb, .string s] 23))
  have t24 := Ob.new (W2) 23 #[.bool nb, .string s]
  have bl := (bl.alloc (by have := bl.size; (try simp only [World.size_alloc] at *); omega) (.cells #[.bool nb, .string s] 23))
  try simp only [World.size_alloc] at t4 t24
  generalize hn3 : W2.heap.size = bk3 at t24 ⊢
  clear hn3
  generalize World.alloc W2 _ = W3 at t4 t24 bl ⊢
  refine (HRI.out _ 1 W3 (rdi_one t24)).mono ?_
  rintro e W4 ⟨rfl, hb⟩
  have t4 := t4.below hb t4.lt
  have t24 := t24.below hb t24.lt
  have bl := bl.trans (Below.mono hb bl.size)
  clear hb
  go_wp2_with fail
  go_ret
  exact ⟨rfl, bl⟩

set_option maxHeartbeats 4000000 in
set_option maxRecDepth 100000 in
theorem Powers_low (n k xx p e q g : Int) (ok : Bool) (nb : Bool) (s : ByteArray) (w : World) (h1 : ¬ 12 < k)
    (HAW : ∀ W, Below w.heap.size w W → Calls Tryd.prog 10 #[] W (RetB true W))
    (HRI : ∀ (A : Option Addr) c W, RdI W A [(nb, s)] → Calls Tryd.prog 22 #[.slice A 1 c] W (RetB true W))
    (I1 : ∀ W, Calls Tryd.prog 23 #[.agg #[.bool nb, .string s]] W (RetNB xx ok W))
    (I2 : ∀ W, Calls Tryd.prog 24 #[.agg #[.bool nb, .string s]] W (RetNB xx ok W))
    (P1 : ∀ W, Calls Tryd.prog 17 #[.agg #[.bool nb, .string s], .int .i64 k] W (RetIE p e W))
    (P2 : ∀ W, Calls Tryd.prog 25 #[.agg #[.bool nb, .string s], .int .i64 k] W (RetIE p e W))
    (S1 : ∀ W, Calls Tryd.prog 18 #[.agg #[.bool nb, .string s]] W (RetIE q g W))
    (S2 : ∀ W, Calls Tryd.prog 26 #[.agg #[.bool nb, .string s]] W (RetIE q g W))
    (O1 : ∀ W, Calls Tryd.prog 12 #[.int .i64 n] W (RetI n W))
    (O2 : ∀ W, Calls Tryd.prog 27 #[.int .i64 n] W (RetI n W))
    (I3 : ∀ W, Calls Tryd.prog 23 #[vI n] W (RetNB n true W)) :
    Calls Tryd.prog 6 #[.int .i64 n, .agg #[.bool nb, .string s], .int .i64 k] w (RetB true w) := by
  replace HAW := Lib.hid HAW
  replace HRI := Lib.hid HRI
  replace I1 := Lib.hid I1
  replace I2 := Lib.hid I2
  replace P1 := Lib.hid P1
  replace P2 := Lib.hid P2
  replace S1 := Lib.hid S1
  replace S2 := Lib.hid S2
  replace O1 := Lib.hid O1
  replace O2 := Lib.hid O2
  replace I3 := Lib.hid I3
  go_enter Tryd.func6, Tryd.ntmps6
  go_wp2_with fail
  have t4 := Ob.new (w) 23 #[.bool nb, .string s]
  have bl := ((Below.refl w.heap.size w).alloc (Nat.le_refl _) (.cells #[.bool nb, .string s] 23))
  try simp only [World.size_alloc] at t4
  generalize World.alloc w _ = W1 at t4 bl ⊢
  refine (HAW.out W1 bl).mono ?_
  rintro e W2 ⟨rfl, hb⟩
  have t4 := t4.below hb t4.lt
  have bl := bl.trans (Below.mono hb bl.size)
  clear hb
  obtain ⟨c0_0, c0_1⟩ := t4.cells2
  go_wp2_with fail
  clear c0_0 c0_1
  have t4 := (t4.alloc (.cells #[.bool nb, .string s] 23))
  have t24 := Ob.new (W2) 23 #[.bool nb, .string s]
  have bl := (bl.alloc (by have := bl.size; (try simp only [World.size_alloc] at *); omega) (.cells #[.bool nb, .string s] 23))
  try simp only [World.size_alloc] at t4 t24
  generalize hn3 : W2.heap.size = bk3 at t24 ⊢
  clear hn3
  generalize World.alloc W2 _ = W3 at t4 t24 bl ⊢
  refine (HRI.out _ 1 W3 (rdi_one t24)).mono ?_
  rintro e W4 ⟨rfl, hb⟩
  have t4 := t4.below hb t4.lt
  have t24 := t24.below hb t24.lt
  have bl := bl.trans (Below.mono hb bl.size)
  clear hb
  obtain ⟨c0_0, c0_1⟩ := t4.cells2
  go_wp2_with fail
  clear c0_0 c0_1
  refine (I1.out W4).mono ?_
  rintro e W5 ⟨rfl, hb⟩
  have t4 := t4.below hb t4.lt
  have t24 := t24.below hb t24.lt
  have bl := bl.trans (Below.mono hb bl.size)
  clear hb
  obtain ⟨c0_0, c0_1⟩ := t4.cells2
  go_wp2_with fail
  clear c0_0 c0_1
  refine (I2.out W5).mono ?_
  rintro e W6 ⟨rfl, hb⟩
  have t4 := t4.below hb t4.lt
  have t24 := t24.below hb t24.lt
  have bl := bl.trans (Below.mono hb bl.size)
  clear hb
  obtain ⟨c0_0, c0_1⟩ := t4.cells2
  go_wp2_with fail
  clear c0_0 c0_1
  refine (P1.out W6).mono ?_
  rintro e W7 ⟨rfl, hb⟩
  have t4 := t4.below hb t4.lt
  have t24 := t24.below hb t24.lt
  have bl := bl.trans (Below.mono hb bl.size)
  clear hb
  obtain ⟨c0_0, c0_1⟩ := (t4.alloc (.cells #[.bool (sg p), .string (mg p)] 23)).cells2
  go_wp2_with fail
  clear c0_0 c0_1
  have t4 := (t4.alloc (.cells #[.bool (sg p), .string (mg p)] 23))
  have t24 := (t24.alloc (.cells #[.bool (sg p), .string (mg p)] 23))
  have t11 := Ob.new (W7) 23 #[.bool (sg p), .string (mg p)]
  have bl := (bl.alloc (by have := bl.size; (try simp only [World.size_alloc] at *); omega) (.cells #[.bool (sg p), .string (mg p)] 23))
  try simp only [World.size_alloc] at t4 t24 t11
  generalize hn8 : W7.heap.size = bk8 at t11 ⊢
  clear hn8
  generalize World.alloc W7 _ = W8 at t4 t24 t11 bl ⊢
  refine (P2.out W8).mono ?_
  rintro e W9 ⟨rfl, hb⟩
  have t4 := t4.below hb t4.lt
  have t24 := t24.below hb t24.lt
  have t11 := t11.below hb t11.lt
  have bl := bl.trans (Below.mono hb bl.size)
  clear hb
  obtain ⟨c0_0, c0_1⟩ := (t4.alloc (.cells #[.bool (sg p), .string (mg p)] 23)).cells2
  go_wp2_with fail
  clear c0_0 c0_1
  have t4 := (t4.alloc (.cells #[.bool (sg p), .string (mg p)] 23))
  have t24 := (t24.alloc (.cells #[.bool (sg p), .string (mg p)] 23))
  have t11 := (t11.alloc (.cells #[.bool (sg p), .string (mg p)] 23))
  have t13 := Ob.new (W9) 23 #[.bool (sg p), .string (mg p)]
  have bl := (bl.alloc (by have := bl.size; (try simp only [World.size_alloc] at *); omega) (.cells #[.bool (sg p), .string (mg p)] 23))
  try simp only [World.size_alloc] at t4 t24 t11 t13
  generalize hn10 : W9.heap.size = bk10 at t13 ⊢
  clear hn10
  generalize World.alloc W9 _ = W10 at t4 t24 t11 t13 bl ⊢
  refine (S1.out W10).mono ?_
  rintro e W11 ⟨rfl, hb⟩
  have t4 := t4.below hb t4.lt
  have t24 := t24.below hb t24.lt
  have t11 := t11.below hb t11.lt
  have t13 := t13.below hb t13.lt
  have bl := bl.trans (Below.mono hb bl.size)
  clear hb
  obtain ⟨c0_0, c0_1⟩ := (t4.alloc (.cells #[.bool (sg q), .string (mg q)] 23)).cells2
  go_wp2_with fail
  clear c0_0 c0_1
  have t4 := (t4.alloc (.cells #[.bool (sg q), .string (mg q)] 23))
  have t24 := (t24.alloc (.cells #[.bool (sg q), .string (mg q)] 23))
  have t11 := (t11.alloc (.cells #[.bool (sg q), .string (mg q)] 23))
  have t13 := (t13.alloc (.cells #[.bool (sg q), .string (mg q)] 23))
  have t15 := Ob.new (W11) 23 #[.bool (sg q), .string (mg q)]
  have bl := (bl.alloc (by have := bl.size; (try simp only [World.size_alloc] at *); omega) (.cells #[.bool (sg q), .string (mg q)] 23))
  try simp only [World.size_alloc] at t4 t24 t11 t13 t15
  generalize hn12 : W11.heap.size = bk12 at t15 ⊢
  clear hn12
  generalize World.alloc W11 _ = W12 at t4 t24 t11 t13 t15 bl ⊢
  refine (S2.out W12).mono ?_
  rintro e W13 ⟨rfl, hb⟩
  have t4 := t4.below hb t4.lt
  have t24 := t24.below hb t24.lt
  have t11 := t11.below hb t11.lt
  have t13 := t13.below hb t13.lt
  have t15 := t15.below hb t15.lt
  have bl := bl.trans (Below.mono hb bl.size)
  clear hb
  go_wp2_with fail
  have t4 := (t4.alloc (.cells #[.bool (sg q), .string (mg q)] 23))
  have t24 := (t24.alloc (.cells #[.bool (sg q), .string (mg q)] 23))
  have t11 := (t11.alloc (.cells #[.bool (sg q), .string (mg q)] 23))
  have t13 := (t13.alloc (.cells #[.bool (sg q), .string (mg q)] 23))
  have t15 := (t15.alloc (.cells #[.bool (sg q), .string (mg q)] 23))
  have t17 := Ob.new (W13) 23 #[.bool (sg q), .string (mg q)]
  have bl := (bl.alloc (by have := bl.size; (try simp only [World.size_alloc] at *); omega) (.cells #[.bool (sg q), .string (mg q)] 23))
  try simp only [World.size_alloc] at t4 t24 t11 t13 t15 t17
  generalize hn14 : W13.heap.size = bk14 at t17 ⊢
  clear hn14
  generalize World.alloc W13 _ = W14 at t4 t24 t11 t13 t15 t17 bl ⊢
  refine (O1.out W14).mono ?_
  rintro e W15 ⟨rfl, hb⟩
  have t4 := t4.below hb t4.lt
  have t24 := t24.below hb t24.lt
  have t11 := t11.below hb t11.lt
  have t13 := t13.below hb t13.lt
  have t15 := t15.below hb t15.lt
  have t17 := t17.below hb t17.lt
  have bl := bl.trans (Below.mono hb bl.size)
  clear hb
  go_wp2_with fail
  refine (I3.out W15).mono ?_
  rintro e W16 ⟨rfl, hb⟩
  have t4 := t4.below hb t4.lt
  have t24 := t24.below hb t24.lt
  have t11 := t11.below hb t11.lt
  have t13 := t13.below hb t13.lt
  have t15 := t15.below hb t15.lt
  have t17 := t17.below hb t17.lt
  have bl := bl.trans (Below.mono hb bl.size)
  clear hb
  go_wp2_with fail
  refine (O1.out W16).mono ?_
  rintro e W17 ⟨rfl, hb⟩
  have t4 := t4.below hb t4.lt
  have t24 := t24.below hb t24.lt
  have t11 := t11.below hb t11.lt
  have t13 := t13.below hb t13.lt
  have t15 := t15.below hb t15.lt
  have t17 := t17.below hb t17.lt
  have bl := bl.trans (Below.mono hb bl.size)
  clear hb
  go_wp2_with fail
  refine (O2.out W17).mono ?_
  rintro e W18 ⟨rfl, hb⟩
  have t4 := t4.below hb t4.lt
  have t24 := t24.below hb t24.lt
  have t11 := t11.below hb t11.lt
  have t13 := t13.below hb t13.lt
  have t15 := t15.below hb t15.lt
  have t17 := t17.below hb t17.lt
  have bl := bl.trans (Below.mono hb bl.size)
  clear hb
  obtain ⟨c0_0, c0_1⟩ := t11.cells2
  obtain ⟨c1_0, c1_1⟩ := t13.cells2
  obtain ⟨c2_0, c2_1⟩ := t15.cells2
  obtain ⟨c3_0, c3_1⟩ := t17.cells2
  go_wp2_with fail
  clear c0_0 c0_1 c1_0 c1_1 c2_0 c2_1 c3_0 c3_1
  go_ret
  exact ⟨rfl, bl⟩
set_option maxHeartbeats 4000000 in
set_option maxRecDepth 100000 in
theorem Powers_high (n k xx p e q g : Int) (ok : Bool) (nb : Bool) (s : ByteArray) (w : World) (h1 : 12 < k) (h2 : ¬ k ≤ 100)
    (HAW : ∀ W, Below w.heap.size w W → Calls Tryd.prog 10 #[] W (RetB true W))
    (HRI : ∀ (A : Option Addr) c W, RdI W A [(nb, s)] → Calls Tryd.prog 22 #[.slice A 1 c] W (RetB true W))
    (I1 : ∀ W, Calls Tryd.prog 23 #[.agg #[.bool nb, .string s]] W (RetNB xx ok W))
    (I2 : ∀ W, Calls Tryd.prog 24 #[.agg #[.bool nb, .string s]] W (RetNB xx ok W))
    (P1 : ∀ W, Calls Tryd.prog 17 #[.agg #[.bool nb, .string s], .int .i64 k] W (RetIE p e W))
    (P2 : ∀ W, Calls Tryd.prog 25 #[.agg #[.bool nb, .string s], .int .i64 k] W (RetIE p e W))
    (S1 : ∀ W, Calls Tryd.prog 18 #[.agg #[.bool nb, .string s]] W (RetIE q g W))
    (S2 : ∀ W, Calls Tryd.prog 26 #[.agg #[.bool nb, .string s]] W (RetIE q g W))
    (O1 : ∀ W, Calls Tryd.prog 12 #[.int .i64 n] W (RetI n W))
    (O2 : ∀ W, Calls Tryd.prog 27 #[.int .i64 n] W (RetI n W))
    (I3 : ∀ W, Calls Tryd.prog 23 #[vI n] W (RetNB n true W)) :
    Calls Tryd.prog 6 #[.int .i64 n, .agg #[.bool nb, .string s], .int .i64 k] w (RetB true w) := by
  replace HAW := Lib.hid HAW
  replace HRI := Lib.hid HRI
  replace I1 := Lib.hid I1
  replace I2 := Lib.hid I2
  replace P1 := Lib.hid P1
  replace P2 := Lib.hid P2
  replace S1 := Lib.hid S1
  replace S2 := Lib.hid S2
  replace O1 := Lib.hid O1
  replace O2 := Lib.hid O2
  replace I3 := Lib.hid I3
  go_enter Tryd.func6, Tryd.ntmps6
  go_wp2_with fail
  have t4 := Ob.new (w) 23 #[.bool nb, .string s]
  have bl := ((Below.refl w.heap.size w).alloc (Nat.le_refl _) (.cells #[.bool nb, .string s] 23))
  try simp only [World.size_alloc] at t4
  generalize World.alloc w _ = W1 at t4 bl ⊢
  refine (HAW.out W1 bl).mono ?_
  rintro e W2 ⟨rfl, hb⟩
  have t4 := t4.below hb t4.lt
  have bl := bl.trans (Below.mono hb bl.size)
  clear hb
  obtain ⟨c0_0, c0_1⟩ := t4.cells2
  go_wp2_with fail
  clear c0_0 c0_1
  have t4 := (t4.alloc (.cells #[.bool nb, .string s] 23))
  have t24 := Ob.new (W2) 23 #[.bool nb, .string s]
  have bl := (bl.alloc (by have := bl.size; (try simp only [World.size_alloc] at *); omega) (.cells #[.bool nb, .string s] 23))
  try simp only [World.size_alloc] at t4 t24
  generalize hn3 : W2.heap.size = bk3 at t24 ⊢
  clear hn3
  generalize World.alloc W2 _ = W3 at t4 t24 bl ⊢
  refine (HRI.out _ 1 W3 (rdi_one t24)).mono ?_
  rintro e W4 ⟨rfl, hb⟩
  have t4 := t4.below hb t4.lt
  have t24 := t24.below hb t24.lt
  have bl := bl.trans (Below.mono hb bl.size)
  clear hb
  obtain ⟨c0_0, c0_1⟩ := t4.cells2
  go_wp2_with fail
  clear c0_0 c0_1
  refine (I1.out W4).mono ?_
  rintro e W5 ⟨rfl, hb⟩
  have t4 := t4.below hb t4.lt
  have t24 := t24.below hb t24.lt
  have bl := bl.trans (Below.mono hb bl.size)
  clear hb
  obtain ⟨c0_0, c0_1⟩ := t4.cells2
  go_wp2_with fail
  clear c0_0 c0_1
  refine (I2.out W5).mono ?_
  rintro e W6 ⟨rfl, hb⟩
  have t4 := t4.below hb t4.lt
  have t24 := t24.below hb t24.lt
  have bl := bl.trans (Below.mono hb bl.size)
  clear hb
  obtain ⟨c0_0, c0_1⟩ := t4.cells2
  go_wp2_with fail
  clear c0_0 c0_1
  refine (P1.out W6).mono ?_
  rintro e W7 ⟨rfl, hb⟩
  have t4 := t4.below hb t4.lt
  have t24 := t24.below hb t24.lt
  have bl := bl.trans (Below.mono hb bl.size)
  clear hb
  obtain ⟨c0_0, c0_1⟩ := (t4.alloc (.cells #[.bool (sg p), .string (mg p)] 23)).cells2
  go_wp2_with fail
  clear c0_0 c0_1
  have t4 := (t4.alloc (.cells #[.bool (sg p), .string (mg p)] 23))
  have t24 := (t24.alloc (.cells #[.bool (sg p), .string (mg p)] 23))
  have t11 := Ob.new (W7) 23 #[.bool (sg p), .string (mg p)]
  have bl := (bl.alloc (by have := bl.size; (try simp only [World.size_alloc] at *); omega) (.cells #[.bool (sg p), .string (mg p)] 23))
  try simp only [World.size_alloc] at t4 t24 t11
  generalize hn8 : W7.heap.size = bk8 at t11 ⊢
  clear hn8
  generalize World.alloc W7 _ = W8 at t4 t24 t11 bl ⊢
  refine (P2.out W8).mono ?_
  rintro e W9 ⟨rfl, hb⟩
  have t4 := t4.below hb t4.lt
  have t24 := t24.below hb t24.lt
  have t11 := t11.below hb t11.lt
  have bl := bl.trans (Below.mono hb bl.size)
  clear hb
  obtain ⟨c0_0, c0_1⟩ := (t4.alloc (.cells #[.bool (sg p), .string (mg p)] 23)).cells2
  go_wp2_with fail
  clear c0_0 c0_1
  have t4 := (t4.alloc (.cells #[.bool (sg p), .string (mg p)] 23))
  have t24 := (t24.alloc (.cells #[.bool (sg p), .string (mg p)] 23))
  have t11 := (t11.alloc (.cells #[.bool (sg p), .string (mg p)] 23))
  have t13 := Ob.new (W9) 23 #[.bool (sg p), .string (mg p)]
  have bl := (bl.alloc (by have := bl.size; (try simp only [World.size_alloc] at *); omega) (.cells #[.bool (sg p), .string (mg p)] 23))
  try simp only [World.size_alloc] at t4 t24 t11 t13
  generalize hn10 : W9.heap.size = bk10 at t13 ⊢
  clear hn10
  generalize World.alloc W9 _ = W10 at t4 t24 t11 t13 bl ⊢
  refine (S1.out W10).mono ?_
  rintro e W11 ⟨rfl, hb⟩
  have t4 := t4.below hb t4.lt
  have t24 := t24.below hb t24.lt
  have t11 := t11.below hb t11.lt
  have t13 := t13.below hb t13.lt
  have bl := bl.trans (Below.mono hb bl.size)
  clear hb
  obtain ⟨c0_0, c0_1⟩ := (t4.alloc (.cells #[.bool (sg q), .string (mg q)] 23)).cells2
  go_wp2_with fail
  clear c0_0 c0_1
  have t4 := (t4.alloc (.cells #[.bool (sg q), .string (mg q)] 23))
  have t24 := (t24.alloc (.cells #[.bool (sg q), .string (mg q)] 23))
  have t11 := (t11.alloc (.cells #[.bool (sg q), .string (mg q)] 23))
  have t13 := (t13.alloc (.cells #[.bool (sg q), .string (mg q)] 23))
  have t15 := Ob.new (W11) 23 #[.bool (sg q), .string (mg q)]
  have bl := (bl.alloc (by have := bl.size; (try simp only [World.size_alloc] at *); omega) (.cells #[.bool (sg q), .string (mg q)] 23))
  try simp only [World.size_alloc] at t4 t24 t11 t13 t15
  generalize hn12 : W11.heap.size = bk12 at t15 ⊢
  clear hn12
  generalize World.alloc W11 _ = W12 at t4 t24 t11 t13 t15 bl ⊢
  refine (S2.out W12).mono ?_
  rintro e W13 ⟨rfl, hb⟩
  have t4 := t4.below hb t4.lt
  have t24 := t24.below hb t24.lt
  have t11 := t11.below hb t11.lt
  have t13 := t13.below hb t13.lt
  have t15 := t15.below hb t15.lt
  have bl := bl.trans (Below.mono hb bl.size)
  clear hb
  go_wp2_with fail
  have t4 := (t4.alloc (.cells #[.bool (sg q), .string (mg q)] 23))
  have t24 := (t24.alloc (.cells #[.bool (sg q), .string (mg q)] 23))
  have t11 := (t11.alloc (.cells #[.bool (sg q), .string (mg q)] 23))
  have t13 := (t13.alloc (.cells #[.bool (sg q), .string (mg q)] 23))
  have t15 := (t15.alloc (.cells #[.bool (sg q), .string (mg q)] 23))
  have t17 := Ob.new (W13) 23 #[.bool (sg q), .string (mg q)]
  have bl := (bl.alloc (by have := bl.size; (try simp only [World.size_alloc] at *); omega) (.cells #[.bool (sg q), .string (mg q)] 23))
  try simp only [World.size_alloc] at t4 t24 t11 t13 t15 t17
  generalize hn14 : W13.heap.size = bk14 at t17 ⊢
  clear hn14
  generalize World.alloc W13 _ = W14 at t4 t24 t11 t13 t15 t17 bl ⊢
  refine (O1.out W14).mono ?_
  rintro e W15 ⟨rfl, hb⟩
  have t4 := t4.below hb t4.lt
  have t24 := t24.below hb t24.lt
  have t11 := t11.below hb t11.lt
  have t13 := t13.below hb t13.lt
  have t15 := t15.below hb t15.lt
  have t17 := t17.below hb t17.lt
  have bl := bl.trans (Below.mono hb bl.size)
  clear hb
  go_wp2_with fail
  refine (I3.out W15).mono ?_
  rintro e W16 ⟨rfl, hb⟩
  have t4 := t4.below hb t4.lt
  have t24 := t24.below hb t24.lt
  have t11 := t11.below hb t11.lt
  have t13 := t13.below hb t13.lt
  have t15 := t15.below hb t15.lt
  have t17 := t17.below hb t17.lt
  have bl := bl.trans (Below.mono hb bl.size)
  clear hb
  go_wp2_with fail
  refine (O1.out W16).mono ?_
  rintro e W17 ⟨rfl, hb⟩
  have t4 := t4.below hb t4.lt
  have t24 := t24.below hb t24.lt
  have t11 := t11.below hb t11.lt
  have t13 := t13.below hb t13.lt
  have t15 := t15.below hb t15.lt
  have t17 := t17.below hb t17.lt
  have bl := bl.trans (Below.mono hb bl.size)
  clear hb
  go_wp2_with fail
  refine (O2.out W17).mono ?_
  rintro e W18 ⟨rfl, hb⟩
  have t4 := t4.below hb t4.lt
  have t24 := t24.below hb t24.lt
  have t11 := t11.below hb t11.lt
  have t13 := t13.below hb t13.lt
  have t15 := t15.below hb t15.lt
  have t17 := t17.below hb t17.lt
  have bl := bl.trans (Below.mono hb bl.size)
  clear hb
  obtain ⟨c0_0, c0_1⟩ := t11.cells2
  obtain ⟨c1_0, c1_1⟩ := t13.cells2
  obtain ⟨c2_0, c2_1⟩ := t15.cells2
  obtain ⟨c3_0, c3_1⟩ := t17.cells2
  go_wp2_with fail
  clear c0_0 c0_1 c1_0 c1_1 c2_0 c2_1 c3_0 c3_1
  go_ret
  exact ⟨rfl, bl⟩

theorem Powers_run (n k xx p e q g : Int) (ok : Bool) (nb : Bool) (s : ByteArray) (w : World) (hk : ¬ 12 < k ∨ ¬ k ≤ 100)
    (HAW : ∀ W, Below w.heap.size w W → Calls Tryd.prog 10 #[] W (RetB true W))
    (HRI : ∀ (A : Option Addr) c W, RdI W A [(nb, s)] → Calls Tryd.prog 22 #[.slice A 1 c] W (RetB true W))
    (I1 : ∀ W, Calls Tryd.prog 23 #[.agg #[.bool nb, .string s]] W (RetNB xx ok W))
    (I2 : ∀ W, Calls Tryd.prog 24 #[.agg #[.bool nb, .string s]] W (RetNB xx ok W))
    (P1 : ∀ W, Calls Tryd.prog 17 #[.agg #[.bool nb, .string s], .int .i64 k] W (RetIE p e W))
    (P2 : ∀ W, Calls Tryd.prog 25 #[.agg #[.bool nb, .string s], .int .i64 k] W (RetIE p e W))
    (S1 : ∀ W, Calls Tryd.prog 18 #[.agg #[.bool nb, .string s]] W (RetIE q g W))
    (S2 : ∀ W, Calls Tryd.prog 26 #[.agg #[.bool nb, .string s]] W (RetIE q g W))
    (O1 : ∀ W, Calls Tryd.prog 12 #[.int .i64 n] W (RetI n W))
    (O2 : ∀ W, Calls Tryd.prog 27 #[.int .i64 n] W (RetI n W))
    (I3 : ∀ W, Calls Tryd.prog 23 #[vI n] W (RetNB n true W)) :
    Calls Tryd.prog 6 #[.int .i64 n, .agg #[.bool nb, .string s], .int .i64 k] w (RetB true w) := by
  by_cases h1 : 12 < k
  · exact Powers_high n k xx p e q g ok nb s w h1 (by omega) HAW HRI I1 I2 P1 P2 S1 S2 O1 O2 I3
  · exact Powers_low n k xx p e q g ok nb s w h1 HAW HRI I1 I2 P1 P2 S1 S2 O1 O2 I3

theorem Powers_all (n : Int) (nb : Bool) (s : ByteArray) (k : Int) (w : World) (ht : HasTab w) (n1 : -9223372036854775808 ≤ n) (n2 : n ≤ 9223372036854775807) (k1 : -9223372036854775808 ≤ k) (k2 : k ≤ 9223372036854775807) :
    Calls Tryd.prog 6 #[.int .i64 n, .agg #[.bool nb, .string s], .int .i64 k] w (RetB true w) := by
  have HAW : ∀ W, Below w.heap.size w W → Calls Tryd.prog 10 #[] W (RetB true W) := fun W h => awake_any W (ht.below h)
  have HRI := fun (A : Option Addr) c W h => few_any A c [(nb, s)] W h (by simp)
  have O1 := fun W => Of_any n W n1 n2
  have O2 := fun W => ROf_any n W n1 n2
  have I3 := fun W => Int64_in n W n1 (by omega)
  cases hf : ([(nb, s)].all fun p => decide (p.2.size ≤ 60)) with
  | false =>
    rw [hf] at HRI
    exact Powers_no n k nb s w HAW HRI
  | true =>
    rw [hf] at HRI
    simp only [List.all_cons, List.all_nil, Bool.and_true, decide_eq_true_eq] at hf
    by_cases hm : 12 < k ∧ k ≤ 100
    · exact Powers_mid n k nb s w hm.1 hm.2 HAW HRI
    · cases hv : vld nb s with
      | false => exact Powers_run n k 0 0 1 0 1 false nb s w (by omega) HAW HRI (fun W => Int64_bad nb s W hv) (fun W => RInt64_bad nb s W hv) (fun W => Pow_bad nb s k W hv) (fun W => RPow_bad1 nb s k W hv) (fun W => Sqrt_bad nb s W hv) (fun W => RSqrt_bad nb s W hv) O1 O2 I3
      | true =>
        have hb : Bd 60 (ival nb s) := (Bd.of_size (ival nb s)).mono (by rw [← (vld_form hv).2]; exact hf)
        have hI : ∃ p e, (∀ W, Calls Tryd.prog 17 #[.agg #[.bool nb, .string s], .int .i64 k] W (RetIE p e W)) ∧ (∀ W, Calls Tryd.prog 25 #[.agg #[.bool nb, .string s], .int .i64 k] W (RetIE p e W)) := by
          by_cases hk0 : k < 0
          · exact ⟨0, 2, fun W => Pow_range nb s k W hv (.inl hk0), fun W => RPow_neg nb s k W hv hk0⟩
          · by_cases hk1 : 100 < k
            · exact ⟨0, 2, fun W => Pow_range nb s k W hv (.inr hk1), fun W => RPow_big nb s k W hv hk1⟩
            · obtain ⟨j, rfl⟩ : ∃ j : Nat, k = (j : Int) := ⟨k.toNat, by omega⟩
              refine ⟨ival nb s ^ j, 0, fun W => ?_, fun W => ?_⟩
              · have h := Pow_any (ival nb s) j W (hb.mono (by omega)) (by omega)
                unfold vI at h
                rwa [← (vld_form hv).1, ← (vld_form hv).2] at h
              · have h := RPow_any (ival nb s) j W (hb.mono (by omega)) (by omega)
                unfold vI at h
                rwa [← (vld_form hv).1, ← (vld_form hv).2] at h
        obtain ⟨p, e, P1, P2⟩ := hI
        have hS : ∃ q g, (∀ W, Calls Tryd.prog 18 #[.agg #[.bool nb, .string s]] W (RetIE q g W)) ∧ (∀ W, Calls Tryd.prog 26 #[.agg #[.bool nb, .string s]] W (RetIE q g W)) := by
          by_cases hneg : ival nb s < 0
          · refine ⟨0, 2, fun W => ?_, fun W => ?_⟩
            · have h := Sqrt_neg (ival nb s) W hneg
              unfold vI at h
              rwa [← (vld_form hv).1, ← (vld_form hv).2] at h
            · have hb' : nb = true := by rw [(vld_form hv).1]; unfold sg; simpa using hneg
              subst hb'
              exact RSqrt_negs s W hv
          · obtain ⟨r, hr1, hr2⟩ := sqrt_exists (ival nb s).natAbs
            refine ⟨r, 0, fun W => ?_, fun W => ?_⟩
            · have h := Sqrt_at (ival nb s) r W (hb.mono (by omega)) (by omega) hr1 hr2
              unfold vI at h
              rwa [← (vld_form hv).1, ← (vld_form hv).2] at h
            · have hc : ((ival nb s).natAbs : Int) = ival nb s := by omega
              have h := RSqrt_any (ival nb s).natAbs r W (by rw [hc]; exact hb.mono (by omega)) hr1 hr2
              rw [hc] at h
              unfold vI at h
              rwa [← (vld_form hv).1, ← (vld_form hv).2] at h
        obtain ⟨q, g, S1, S2⟩ := hS
        have i1 := fun W => Int64_any (ival nb s) W
        have i2 := fun W => RInt64_any (ival nb s) W
        unfold vI at i1 i2
        rw [← (vld_form hv).1, ← (vld_form hv).2] at i1 i2
        exact Powers_run n k _ p e q g _ nb s w (by omega) HAW HRI i1 i2 P1 P2 S1 S2 O1 O2 I3
theorem Powers_i64 (n : Int) (nb : Bool) (s : ByteArray) (k : Int) (hn : (Lit.int .i64 n).wf = true) (hk : (Lit.int .i64 k).wf = true) (w : World) (ht : HasTab w) : Calls Tryd.prog 6 #[.int .i64 n, .agg #[.bool nb, .string s], .int .i64 k] w (RetB true w) := by
  have h1 : -9223372036854775808 ≤ n ∧ n ≤ 9223372036854775807 := by simpa [Lit.wf, IntKind.min, IntKind.max, IntKind.signed, IntKind.bits] using hn
  have h2 : -9223372036854775808 ≤ k ∧ k ≤ 9223372036854775807 := by simpa [Lit.wf, IntKind.min, IntKind.max, IntKind.signed, IntKind.bits] using hk
  exact Powers_all n nb s k w ht h1.1 h1.2 h2.1 h2.2
end Go.Proofs.YtboolbcckfldaaaDoor
