import Derived.Test.YtboolbcckfldaaaDoorRefG
namespace Go.Proofs.YtboolbcckfldaaaDoor
open Go.RowKit
set_option linter.unusedVariables false
set_option linter.unusedSimpArgs false


set_option maxHeartbeats 1000000 in
set_option maxRecDepth 100000 in
theorem RMul_bad1 (n m : Bool) (s t : ByteArray) (w : World) (h : vld n s = false) : Calls Tryd.prog 47 #[.agg #[.bool n, .string s], .agg #[.bool m, .string t]] w (RetI 0 w) := by
  have H1 := fun W => Lib.hid (RValid_no n s W h)
  clear h
  go_enter Tryd.func47, Tryd.ntmps47
  go_wp2_with fail
  have t2 := ((Ob.new (w) 23 #[.bool n, .string s]).alloc (.cells #[.bool m, .string t] 23)).alloc (.cells #[.bool false, .string ⟨#[]⟩] 23)
  have t3 := (Ob.new ((w.alloc (.cells #[.bool n, .string s] 23))) 23 #[.bool m, .string t]).alloc (.cells #[.bool false, .string ⟨#[]⟩] 23)
  have t4 := Ob.new (((w.alloc (.cells #[.bool n, .string s] 23)).alloc (.cells #[.bool m, .string t] 23))) 23 #[.bool false, .string ⟨#[]⟩]
  have bl := ((((Below.refl w.heap.size w).alloc (Nat.le_refl _) (.cells #[.bool n, .string s] 23)).alloc (by simp only [World.size_alloc]; omega) (.cells #[.bool m, .string t] 23)).alloc (by simp only [World.size_alloc]; omega) (.cells #[.bool false, .string ⟨#[]⟩] 23))
  try simp only [World.size_alloc] at t2 t3 t4
  generalize World.alloc (World.alloc (World.alloc w _) _) _ = W1 at t2 t3 t4 bl ⊢
  refine ((H1 W1).out).mono ?_
  rintro e W2 ⟨rfl, hb⟩
  have t2 := t2.below hb t2.lt
  have t3 := t3.below hb t3.lt
  have t4 := t4.below hb t4.lt
  have bl := bl.trans (Below.mono hb bl.size)
  clear hb
  try simp only [ptr, Act.put, List.setIfInBounds_toArray, List.set_cons_zero, List.set_cons_succ]
  have fr4 := t4.free
  obtain ⟨z4_0, z4_1⟩ := t4.cells2
  go_wp2_with fail
  clear fr4 z4_0 z4_1
  have t2 := t2.far2 (show w.heap.size ≠ w.heap.size + 1 + 1 by omega) (.bool false) (.string ⟨#[]⟩)
  have t3 := t3.far2 (show w.heap.size + 1 ≠ w.heap.size + 1 + 1 by omega) (.bool false) (.string ⟨#[]⟩)
  have t4 := t4.set2 (.bool false) (.string ⟨#[]⟩)
  have bl := (below_set (below_set bl (show w.heap.size ≤ w.heap.size + 1 + 1 by omega) 0 (.bool false)) (show w.heap.size ≤ w.heap.size + 1 + 1 by omega) 1 (.string ⟨#[]⟩))
  generalize World.setCell (World.setCell W2 _ _) _ _ = W3 at t2 t3 t4 bl ⊢
  obtain ⟨r4_0, r4_1⟩ := t4.cells2
  exact bodyPost_ret (v := .agg #[.bool false, .string ⟨#[]⟩]) (by simp [results, Tryd.results47, go_sem, r4_0, r4_1]) rfl (RetI.zero bl)

set_option maxHeartbeats 1000000 in
set_option maxRecDepth 100000 in
theorem RMul_small (x y : Int) (w : World) (h : (mg x).size + (mg y).size ≤ 7) : Calls Tryd.prog 47 #[vI x, vI y] w (RetI (x * y) w) := by
  have H1 := fun W => Lib.hid (RValid_yes x W)
  have H2 := fun W => Lib.hid (RValid_yes y W)
  have H3 := fun W => Lib.hid (Rsmall_yes x W (by omega))
  have H4 := fun W => Lib.hid (Rsmall_yes y W (by omega))
  have hsz : ((mg x).size : Int) + ((mg y).size : Int) ≤ 7 := by omega
  have hbd : Bd 7 (x * y) := ((Bd.of_size x).mul (Bd.of_size y)).mono h
  have hb : -72057594037927936 < x * y ∧ x * y < 72057594037927936 := by
    have := hbd
    unfold Bd at this
    omega
  have H5 := fun W => Lib.hid (ROf_any (x * y) W (by omega) (by omega))
  clear h hbd
  go_enter Tryd.func47, Tryd.ntmps47
  go_wp2_with fail
  have t2 := ((Ob.new (w) 23 #[.bool (sg x), .string (mg x)]).alloc (.cells #[.bool (sg y), .string (mg y)] 23)).alloc (.cells #[.bool false, .string ⟨#[]⟩] 23)
  have t3 := (Ob.new ((w.alloc (.cells #[.bool (sg x), .string (mg x)] 23))) 23 #[.bool (sg y), .string (mg y)]).alloc (.cells #[.bool false, .string ⟨#[]⟩] 23)
  have t4 := Ob.new (((w.alloc (.cells #[.bool (sg x), .string (mg x)] 23)).alloc (.cells #[.bool (sg y), .string (mg y)] 23))) 23 #[.bool false, .string ⟨#[]⟩]
  have bl := ((((Below.refl w.heap.size w).alloc (Nat.le_refl _) (.cells #[.bool (sg x), .string (mg x)] 23)).alloc (by simp only [World.size_alloc]; omega) (.cells #[.bool (sg y), .string (mg y)] 23)).alloc (by simp only [World.size_alloc]; omega) (.cells #[.bool false, .string ⟨#[]⟩] 23))
  try simp only [World.size_alloc] at t2 t3 t4
  generalize World.alloc (World.alloc (World.alloc w _) _) _ = W1 at t2 t3 t4 bl ⊢
  refine ((H1 W1).out).mono ?_
  rintro e W2 ⟨rfl, hb⟩
  have t2 := t2.below hb t2.lt
  have t3 := t3.below hb t3.lt
  have t4 := t4.below hb t4.lt
  have bl := bl.trans (Below.mono hb bl.size)
  clear hb
  obtain ⟨c0_0, c0_1⟩ := t3.cells2
  go_wp2_with fail
  clear c0_0 c0_1
  refine ((H2 W2).out).mono ?_
  rintro e W3 ⟨rfl, hb⟩
  have t2 := t2.below hb t2.lt
  have t3 := t3.below hb t3.lt
  have t4 := t4.below hb t4.lt
  have bl := bl.trans (Below.mono hb bl.size)
  clear hb
  obtain ⟨c0_0, c0_1⟩ := t2.cells2
  obtain ⟨c1_0, c1_1⟩ := t3.cells2
  go_wp2_with fail
  clear c0_0 c0_1 c1_0 c1_1
  refine ((H3 W3).out).mono ?_
  rintro e W4 ⟨rfl, hb⟩
  have t2 := t2.below hb t2.lt
  have t3 := t3.below hb t3.lt
  have t4 := t4.below hb t4.lt
  have bl := bl.trans (Below.mono hb bl.size)
  clear hb
  obtain ⟨c0_0, c0_1⟩ := t3.cells2
  go_wp2_with fail
  clear c0_0 c0_1
  refine ((H4 W4).out).mono ?_
  rintro e W5 ⟨rfl, hb⟩
  have t2 := t2.below hb t2.lt
  have t3 := t3.below hb t3.lt
  have t4 := t4.below hb t4.lt
  have bl := bl.trans (Below.mono hb bl.size)
  clear hb
  go_wp2_with fail
  refine ((H5 W5).out).mono ?_
  rintro e W6 ⟨rfl, hb⟩
  have t2 := t2.below hb t2.lt
  have t3 := t3.below hb t3.lt
  have t4 := t4.below hb t4.lt
  have bl := bl.trans (Below.mono hb bl.size)
  clear hb
  try simp only [ptr, Act.put, List.setIfInBounds_toArray, List.set_cons_zero, List.set_cons_succ]
  have fr4 := t4.free
  obtain ⟨z4_0, z4_1⟩ := t4.cells2
  go_wp2_with fail
  clear fr4 z4_0 z4_1
  have t2 := t2.far2 (show w.heap.size ≠ w.heap.size + 1 + 1 by omega) (.bool (sg (x * y))) (.string (mg (x * y)))
  have t3 := t3.far2 (show w.heap.size + 1 ≠ w.heap.size + 1 + 1 by omega) (.bool (sg (x * y))) (.string (mg (x * y)))
  have t4 := t4.set2 (.bool (sg (x * y))) (.string (mg (x * y)))
  have bl := (below_set (below_set bl (show w.heap.size ≤ w.heap.size + 1 + 1 by omega) 0 (.bool (sg (x * y)))) (show w.heap.size ≤ w.heap.size + 1 + 1 by omega) 1 (.string (mg (x * y))))
  generalize World.setCell (World.setCell W6 _ _) _ _ = W7 at t2 t3 t4 bl ⊢
  obtain ⟨r4_0, r4_1⟩ := t4.cells2
  exact bodyPost_ret (v := vI (x * y)) (by simp [results, Tryd.results47, go_sem, r4_0, r4_1]) rfl (⟨rfl, bl⟩)

set_option maxHeartbeats 2000000 in
set_option maxRecDepth 100000 in
theorem RMul_big (x y : Int) (w : World) (hx : Bd 400000000 x) (hy : Bd 400000000 y) (h : 7 < (mg x).size + (mg y).size) : Calls Tryd.prog 47 #[vI x, vI y] w (RetI (x * y) w) := by
  have H1 := fun W => Lib.hid (RValid_yes x W)
  have H2 := fun W => Lib.hid (RValid_yes y W)
  have HX := fun W => Lib.hid (Rdigits_mg x W (hx.mono (by omega)))
  have HY := fun W => Lib.hid (Rdigits_mg y W (hy.mono (by omega)))
  have lx := hx.digs24
  have ly := hy.digs24
  have lz := (hx.mul hy).digs24
  rw [Int.natAbs_mul] at lz
  have sx := hx.size
  have sy := hy.size
  have HL : Hid ((digs 16777216 (x.natAbs * y.natAbs)).length ≤ 1000000000) := Lib.hid (by omega)
  have HG : ∀ (A : Option Addr) c W, RdAt W .i64 A (digs 16777216 (x.natAbs * y.natAbs)) → Hid (Calls Tryd.prog 54 #[.bool (!(sg x == sg y)), .slice A (digs 16777216 (x.natAbs * y.natAbs)).length c] W (RetI (x * y) W)) := fun A c W h => Lib.hid (by
    have := Rsigned_d A c _ (!(sg x == sg y)) W h HL.out
    rwa [sgnd_mul] at this)
  have hsz : ¬ ((mg x).size : Int) + ((mg y).size : Int) ≤ 7 := by omega
  clear hx hy h lz
  go_enter Tryd.func47, Tryd.ntmps47
  go_wp2_with fail
  have t2 := ((Ob.new (w) 23 #[.bool (sg x), .string (mg x)]).alloc (.cells #[.bool (sg y), .string (mg y)] 23)).alloc (.cells #[.bool false, .string ⟨#[]⟩] 23)
  have t3 := (Ob.new ((w.alloc (.cells #[.bool (sg x), .string (mg x)] 23))) 23 #[.bool (sg y), .string (mg y)]).alloc (.cells #[.bool false, .string ⟨#[]⟩] 23)
  have t4 := Ob.new (((w.alloc (.cells #[.bool (sg x), .string (mg x)] 23)).alloc (.cells #[.bool (sg y), .string (mg y)] 23))) 23 #[.bool false, .string ⟨#[]⟩]
  have bl := ((((Below.refl w.heap.size w).alloc (Nat.le_refl _) (.cells #[.bool (sg x), .string (mg x)] 23)).alloc (by simp only [World.size_alloc]; omega) (.cells #[.bool (sg y), .string (mg y)] 23)).alloc (by simp only [World.size_alloc]; omega) (.cells #[.bool false, .string ⟨#[]⟩] 23))
  try simp only [World.size_alloc] at t2 t3 t4
  generalize World.alloc (World.alloc (World.alloc w _) _) _ = W1 at t2 t3 t4 bl ⊢
  refine ((H1 W1).out).mono ?_
  rintro e W2 ⟨rfl, hb⟩
  have t2 := t2.below hb t2.lt
  have t3 := t3.below hb t3.lt
  have t4 := t4.below hb t4.lt
  have bl := bl.trans (Below.mono hb bl.size)
  clear hb
  obtain ⟨c0_0, c0_1⟩ := t3.cells2
  go_wp2_with fail
  clear c0_0 c0_1
  refine ((H2 W2).out).mono ?_
  rintro e W3 ⟨rfl, hb⟩
  have t2 := t2.below hb t2.lt
  have t3 := t3.below hb t3.lt
  have t4 := t4.below hb t4.lt
  have bl := bl.trans (Below.mono hb bl.size)
  clear hb
  obtain ⟨c0_0, c0_1⟩ := t2.cells2
  obtain ⟨c1_0, c1_1⟩ := t3.cells2
  go_wp2_with fail
  clear c0_0 c0_1 c1_0 c1_1
  have s2 := t2
  have s3 := t3
  refine region_by (CB W3) 13 [(0, true), (1, true), (2, true), (3, true), (4, true), (5, true), (6, true), (8, true), (9, true), (7, false), (10, false), (11, false), (12, false)] (by kernel_rfl) (by kernel_rfl) (CB.drew0 W3) ?_
  refine wpBy.look _ (.pointer (some ⟨w.heap.size, 0, none⟩)) rfl (by kernel_rfl) (by intro w' hC; go_simp) ?_
  try simp only [Act.put, List.setIfInBounds_toArray, List.set_cons_zero, List.set_cons_succ]
  refine wpBy.look _ (.bool (sg x)) rfl (by kernel_rfl) (by intro w' hC; obtain ⟨q0, q1⟩ := (s2.below hC s2.lt).cells2; go_simp) ?_
  try simp only [Act.put, List.setIfInBounds_toArray, List.set_cons_zero, List.set_cons_succ]
  refine wpBy.look _ (.pointer (some ⟨w.heap.size + 1, 0, none⟩)) rfl (by kernel_rfl) (by intro w' hC; go_simp) ?_
  try simp only [Act.put, List.setIfInBounds_toArray, List.set_cons_zero, List.set_cons_succ]
  refine wpBy.look _ (.bool (sg y)) rfl (by kernel_rfl) (by intro w' hC; obtain ⟨q0, q1⟩ := (s3.below hC s3.lt).cells2; go_simp) ?_
  try simp only [Act.put, List.setIfInBounds_toArray, List.set_cons_zero, List.set_cons_succ]
  refine wpBy.look _ (.bool (!(sg x == sg y))) rfl (by kernel_rfl) (by intro w' hC; go_simp) ?_
  try simp only [Act.put, List.setIfInBounds_toArray, List.set_cons_zero, List.set_cons_succ]
  refine wpBy.look _ (.pointer (some ⟨w.heap.size, 1, none⟩)) rfl (by kernel_rfl) (by intro w' hC; go_simp) ?_
  try simp only [Act.put, List.setIfInBounds_toArray, List.set_cons_zero, List.set_cons_succ]
  refine wpBy.look _ (.string (mg x)) rfl (by kernel_rfl) (by intro w' hC; obtain ⟨q0, q1⟩ := (s2.below hC s2.lt).cells2; go_simp) ?_
  try simp only [Act.put, List.setIfInBounds_toArray, List.set_cons_zero, List.set_cons_succ]
  refine wpBy.look _ (.pointer (some ⟨w.heap.size + 1, 1, none⟩)) rfl (by kernel_rfl) (by intro w' hC; go_simp) ?_
  try simp only [Act.put, List.setIfInBounds_toArray, List.set_cons_zero, List.set_cons_succ]
  refine wpBy.look _ (.string (mg y)) rfl (by kernel_rfl) (by intro w' hC; obtain ⟨q0, q1⟩ := (s3.below hC s3.lt).cells2; go_simp) ?_
  try simp only [Act.put, List.setIfInBounds_toArray, List.set_cons_zero, List.set_cons_succ]
  refine wpBy.do _ rfl (fun K hK => ?_)
  go_simp
  refine ((HX _).out).mono ?_
  rintro e W4 ⟨A1, c1, rfl, hc1, hr1, hb⟩
  have hb : CB W3 W4 := CB.of_drew hb
  have hS := hb
  have t2 := t2.below hb t2.lt
  have t3 := t3.below hb t3.lt
  have t4 := t4.below hb t4.lt
  have bl := bl.trans (Below.mono hb bl.size)
  dsimp only
  refine hK.out _ _ hS ?_
  clear hK K hb
  try simp only [Act.put, List.setIfInBounds_toArray, List.set_cons_zero, List.set_cons_succ]
  refine wpBy.do _ rfl (fun K hK => ?_)
  go_simp
  refine ((HY W4).out).mono ?_
  rintro e W5 ⟨A2, c2, rfl, hc2, hr2, hb⟩
  have hS := hS.step hb
  have t2 := t2.below hb t2.lt
  have t3 := t3.below hb t3.lt
  have t4 := t4.below hb t4.lt
  have hr1 := hr1.below hb
  have bl := bl.trans (Below.mono hb bl.size)
  dsimp only
  refine hK.out _ _ hS ?_
  clear hK K hb
  try simp only [Act.put, List.setIfInBounds_toArray, List.set_cons_zero, List.set_cons_succ]
  refine wpBy.do _ rfl (fun K hK => ?_)
  go_simp
  refine (Rtimes_any A1 A2 c1 c2 x.natAbs y.natAbs _ hr1 hr2 (by omega) (by omega)).mono ?_
  rintro e W6 ⟨A3, c3, rfl, hc3, hr3, hb⟩
  have hS := hS.step hb
  have t2 := t2.below hb t2.lt
  have t3 := t3.below hb t3.lt
  have t4 := t4.below hb t4.lt
  have hr1 := hr1.below hb
  have hr2 := hr2.below hb
  have bl := bl.trans (Below.mono hb bl.size)
  dsimp only
  refine hK.out _ _ hS ?_
  clear hK K hb
  try simp only [Act.put, List.setIfInBounds_toArray, List.set_cons_zero, List.set_cons_succ]
  refine wpBy.do _ rfl (fun K hK => ?_)
  go_simp
  refine ((HG A3 c3 W6 hr3).out).mono ?_
  rintro e W7 ⟨rfl, hb⟩
  have hS := hS.step hb
  have t2 := t2.below hb t2.lt
  have t3 := t3.below hb t3.lt
  have t4 := t4.below hb t4.lt
  have hr1 := hr1.below hb
  have hr2 := hr2.below hb
  have hr3 := hr3.below hb
  have bl := bl.trans (Below.mono hb bl.size)
  dsimp only
  refine hK.out _ _ hS ?_
  clear hK K hb
  try simp only [Act.put, List.setIfInBounds_toArray, List.set_cons_zero, List.set_cons_succ]
  clear hS s2 s3
  simp only [wpBy, List.drop_succ_cons, List.drop_zero]
  try simp only [ptr, Act.put, List.setIfInBounds_toArray, List.set_cons_zero, List.set_cons_succ]
  have fr4 := t4.free
  obtain ⟨z4_0, z4_1⟩ := t4.cells2
  go_wp2_with fail
  clear fr4 z4_0 z4_1
  have t2 := t2.far2 (show w.heap.size ≠ w.heap.size + 1 + 1 by omega) (.bool (sg (x * y))) (.string (mg (x * y)))
  have t3 := t3.far2 (show w.heap.size + 1 ≠ w.heap.size + 1 + 1 by omega) (.bool (sg (x * y))) (.string (mg (x * y)))
  have t4 := t4.set2 (.bool (sg (x * y))) (.string (mg (x * y)))
  have bl := (below_set (below_set bl (show w.heap.size ≤ w.heap.size + 1 + 1 by omega) 0 (.bool (sg (x * y)))) (show w.heap.size ≤ w.heap.size + 1 + 1 by omega) 1 (.string (mg (x * y))))
  generalize World.setCell (World.setCell W7 _ _) _ _ = W8 at t2 t3 t4 bl ⊢
  refine NoPanic.normal ?_
  go_wp2_with fail
  obtain ⟨r4_0, r4_1⟩ := t4.cells2
  exact bodyPost_ret (v := vI (x * y)) (by simp [results, Tryd.results47, go_sem, r4_0, r4_1]) rfl (⟨rfl, bl⟩)
theorem RMul_any (x y : Int) (w : World) (hx : Bd 400000000 x) (hy : Bd 400000000 y) : Calls Tryd.prog 47 #[vI x, vI y] w (RetI (x * y) w) := by
  by_cases h : (mg x).size + (mg y).size ≤ 7
  · exact RMul_small x y w h
  · exact RMul_big x y w hx hy (by omega)
end Go.Proofs.YtboolbcckfldaaaDoor
