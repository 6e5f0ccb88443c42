import Derived.Test.YtboolbcckfldaaaGreatDoorLawB
import Derived.Test.YtboolbcckfldaaaGreatDoorRefI
namespace Go.Proofs.YtboolbcckfldaaaGreatDoor
open Go.RowKit
set_option linter.unusedVariables false
set_option linter.unusedSimpArgs false

theorem rdi_two {w : World} {t : TypeId} {b : Nat} {a c : Bool} {r s : ByteArray} (h : Ob w b t #[.bool a, .string r, .bool c, .string s]) : RdI w (some ⟨b, 0, none⟩) [(a, r), (c, s)] := fun i hi => by
  have : i = 0 ∨ i = 1 := by simp at hi; omega
  rcases this with rfl | rfl
  · exact ⟨b, 0, rfl, h.cell 0 rfl, h.cell 1 rfl⟩
  · exact ⟨b, 0, rfl, h.cell 2 rfl, h.cell 3 rfl⟩

set_option maxHeartbeats 1000000 in
set_option maxRecDepth 100000 in
theorem Arith_no (n m : Bool) (s t : ByteArray) (w : World)
    (HAW : ∀ W, Below w.heap.size w W → Calls Tryz.prog 5 #[] W (RetB true W))
    (HFW : ∀ (A : Option Addr) c W, RdI W A [(n, s), (m, t)] → Calls Tryz.prog 6 #[.slice A 2 c] W (RetB false W)) :
    Calls Tryz.prog 3 #[.agg #[.bool n, .string s], .agg #[.bool m, .string t]] w (RetB true w) := by
  replace HAW := Lib.hid HAW
  replace HFW := Lib.hid HFW
  go_enter Tryz.func3, Tryz.ntmps3
  go_wp2_with fail
  have t2 := (Ob.new (w) 23 #[.bool n, .string s]).alloc (.cells #[.bool m, .string t] 23)
  have t3 := Ob.new ((w.alloc (.cells #[.bool n, .string s] 23))) 23 #[.bool m, .string t]
  have bl := (((Below.refl w.heap.size w).alloc (Nat.le_refl _) (.cells #[.bool n, .string s] 23)).alloc (by simp only [World.size_alloc]; omega) (.cells #[.bool m, .string t] 23))
  try simp only [World.size_alloc] at t2 t3
  generalize World.alloc (World.alloc w _) _ = W1 at t2 t3 bl ⊢
  refine (HAW.out W1 bl).mono ?_
  rintro e W2 ⟨rfl, hb⟩
  have t2 := t2.below hb t2.lt
  have t3 := t3.below hb t3.lt
  have bl := bl.trans (Below.mono hb bl.size)
  clear hb
  obtain ⟨c0_0, c0_1⟩ := t2.cells2
  obtain ⟨c1_0, c1_1⟩ := t3.cells2
  go_wp2_with fail
  clear c0_0 c0_1 c1_0 c1_1
  have t2 := (t2.alloc (.cells #[.bool n, .string s, .bool m, .string t] 23))
  have t3 := (t3.alloc (.cells #[.bool n, .string s, .bool m, .string t] 23))
  have t12 := Ob.new (W2) 23 #[.bool n, .string s, .bool m, .string t]
  have bl := (bl.alloc (by have := bl.size; (try simp only [World.size_alloc] at *); omega) (.cells #[.bool n, .string s, .bool m, .string t] 23))
  try simp only [World.size_alloc] at t2 t3 t12
  generalize hn3 : W2.heap.size = bk3 at t12 ⊢
  clear hn3
  generalize World.alloc W2 _ = W3 at t2 t3 t12 bl ⊢
  refine (HFW.out _ 2 W3 (rdi_two t12)).mono ?_
  rintro e W4 ⟨rfl, hb⟩
  have t2 := t2.below hb t2.lt
  have t3 := t3.below hb t3.lt
  have t12 := t12.below hb t12.lt
  have bl := bl.trans (Below.mono hb bl.size)
  clear hb
  go_wp2_with fail
  go_ret
  exact ⟨rfl, bl⟩

set_option maxHeartbeats 4000000 in
set_option maxRecDepth 100000 in
theorem Arith_walk (n m : Bool) (s t : ByteArray) (u v p na aa sn co bi : Int) (bv : Bool) (w : World)
    (HAW : ∀ W, Below w.heap.size w W → Calls Tryz.prog 5 #[] W (RetB true W))
    (HFW : ∀ (A : Option Addr) c W, RdI W A [(n, s), (m, t)] → Calls Tryz.prog 6 #[.slice A 2 c] W (RetB true W))
    (HAdd : ∀ W, Calls Tryz.prog 7 #[.agg #[.bool n, .string s], .agg #[.bool m, .string t]] W (RetI u W))
    (HSub : ∀ W, Calls Tryz.prog 8 #[.agg #[.bool n, .string s], .agg #[.bool m, .string t]] W (RetI v W))
    (HMul : ∀ W, Calls Tryz.prog 9 #[.agg #[.bool n, .string s], .agg #[.bool m, .string t]] W (RetI p W))
    (HRAdd : ∀ W, Calls Tryz.prog 10 #[.agg #[.bool n, .string s], .agg #[.bool m, .string t]] W (RetI u W))
    (HRSub : ∀ W, Calls Tryz.prog 11 #[.agg #[.bool n, .string s], .agg #[.bool m, .string t]] W (RetI v W))
    (HRMul : ∀ W, Calls Tryz.prog 12 #[.agg #[.bool n, .string s], .agg #[.bool m, .string t]] W (RetI p W))
    (HNeg : ∀ W, Calls Tryz.prog 14 #[.agg #[.bool n, .string s]] W (RetI na W))
    (HAbs : ∀ W, Calls Tryz.prog 16 #[.agg #[.bool n, .string s]] W (RetI aa W))
    (HRNeg : ∀ W, Calls Tryz.prog 15 #[.agg #[.bool n, .string s]] W (RetI na W))
    (HRAbs : ∀ W, Calls Tryz.prog 17 #[.agg #[.bool n, .string s]] W (RetI aa W))
    (HSign : ∀ W, Calls Tryz.prog 18 #[.agg #[.bool n, .string s]] W (RetN sn W))
    (HBits : ∀ W, Calls Tryz.prog 22 #[.agg #[.bool n, .string s]] W (RetN bi W))
    (HRSign : ∀ W, Calls Tryz.prog 19 #[.agg #[.bool n, .string s]] W (RetN sn W))
    (HRBits : ∀ W, Calls Tryz.prog 23 #[.agg #[.bool n, .string s]] W (RetN bi W))
    (HCmp : ∀ W, Calls Tryz.prog 20 #[.agg #[.bool n, .string s], .agg #[.bool m, .string t]] W (RetN co W))
    (HRCmp : ∀ W, Calls Tryz.prog 21 #[.agg #[.bool n, .string s], .agg #[.bool m, .string t]] W (RetN co W))
    (HValid : ∀ W, Calls Tryz.prog 24 #[.agg #[.bool n, .string s]] W (RetB bv W))
    (HRValid : ∀ W, Calls Tryz.prog 13 #[.agg #[.bool n, .string s]] W (RetB bv W)) :
    Calls Tryz.prog 3 #[.agg #[.bool n, .string s], .agg #[.bool m, .string t]] w (RetB true w) := by
  replace HAW := Lib.hid HAW
  replace HFW := Lib.hid HFW
  replace HAdd := Lib.hid HAdd
  replace HSub := Lib.hid HSub
  replace HMul := Lib.hid HMul
  replace HRAdd := Lib.hid HRAdd
  replace HRSub := Lib.hid HRSub
  replace HRMul := Lib.hid HRMul
  replace HNeg := Lib.hid HNeg
  replace HAbs := Lib.hid HAbs
  replace HRNeg := Lib.hid HRNeg
  replace HRAbs := Lib.hid HRAbs
  replace HSign := Lib.hid HSign
  replace HBits := Lib.hid HBits
  replace HRSign := Lib.hid HRSign
  replace HRBits := Lib.hid HRBits
  replace HCmp := Lib.hid HCmp
  replace HRCmp := Lib.hid HRCmp
  replace HValid := Lib.hid HValid
  replace HRValid := Lib.hid HRValid
  have HY := fun z W => Lib.hid (RValid_yes z W)
  go_enter Tryz.func3, Tryz.ntmps3
  go_wp2_with fail
  have t2 := (Ob.new (w) 23 #[.bool n, .string s]).alloc (.cells #[.bool m, .string t] 23)
  have t3 := Ob.new ((w.alloc (.cells #[.bool n, .string s] 23))) 23 #[.bool m, .string t]
  have bl := (((Below.refl w.heap.size w).alloc (Nat.le_refl _) (.cells #[.bool n, .string s] 23)).alloc (by simp only [World.size_alloc]; omega) (.cells #[.bool m, .string t] 23))
  try simp only [World.size_alloc] at t2 t3
  generalize World.alloc (World.alloc w _) _ = W1 at t2 t3 bl ⊢
  refine (HAW.out W1 bl).mono ?_
  rintro e W2 ⟨rfl, hb⟩
  have t2 := t2.below hb t2.lt
  have t3 := t3.below hb t3.lt
  have bl := bl.trans (Below.mono hb bl.size)
  clear hb
  obtain ⟨c0_0, c0_1⟩ := t2.cells2
  obtain ⟨c1_0, c1_1⟩ := t3.cells2
  go_wp2_with fail
  clear c0_0 c0_1 c1_0 c1_1
  have t2 := (t2.alloc (.cells #[.bool n, .string s, .bool m, .string t] 23))
  have t3 := (t3.alloc (.cells #[.bool n, .string s, .bool m, .string t] 23))
  have t12 := Ob.new (W2) 23 #[.bool n, .string s, .bool m, .string t]
  have bl := (bl.alloc (by have := bl.size; (try simp only [World.size_alloc] at *); omega) (.cells #[.bool n, .string s, .bool m, .string t] 23))
  try simp only [World.size_alloc] at t2 t3 t12
  generalize hn3 : W2.heap.size = bk3 at t12 ⊢
  clear hn3
  generalize World.alloc W2 _ = W3 at t2 t3 t12 bl ⊢
  refine (HFW.out _ 2 W3 (rdi_two t12)).mono ?_
  rintro e W4 ⟨rfl, hb⟩
  have t2 := t2.below hb t2.lt
  have t3 := t3.below hb t3.lt
  have t12 := t12.below hb t12.lt
  have bl := bl.trans (Below.mono hb bl.size)
  clear hb
  go_wp2_with fail
  have l2 := t2.lt
  have l3 := t3.lt
  have l12 := t12.lt
  have lw := bl.size
  refine region_bq 9 [(.cells #[.bool false, .string ⟨#[]⟩] 23), (.cells #[.bool false, .string ⟨#[]⟩] 23), (.cells #[.bool false, .string ⟨#[]⟩] 23)] (by kernel_rfl) (by kernel_rfl) ?_ ?_
  focus
    intro i o ob hi ho a
    have hlt : i = 9 ∨ i = 10 ∨ i = 11 := by
      have h1 : i < 15 := by have := (Array.getElem?_eq_some_iff.1 hi).1; simpa using this
      unfold alOf at ho; split at ho
      · have h2 : i - 9 < 3 := by have := (List.getElem?_eq_some_iff.1 ho).1; simpa using this
        omega
      · cases ho
    rcases hlt with rfl | rfl | rfl
    all_goals (simp at hi; simp [alOf] at ho; subst hi; subst ho; exact ⟨by kernel_rfl, fun w => by go_simp; first | done | rfl⟩)
  simp only [List.take_succ_cons, List.take_zero, List.drop_succ_cons, List.drop_zero, List.length_cons, List.length_nil, Nat.zero_add, Nat.reduceAdd]
  refine bq_run (.agg #[.bool n, .string s]) (by kernel_rfl) (fun w' hC => by obtain ⟨q0, q1⟩ := (t2.below hC t2.lt).cells2; go_simp) ?_
  simp only [Act.put, List.setIfInBounds_toArray, List.set_cons_zero, List.set_cons_succ]
  refine bq_run (.agg #[.bool m, .string t]) (by kernel_rfl) (fun w' hC => by obtain ⟨q0, q1⟩ := (t3.below hC t3.lt).cells2; go_simp) ?_
  simp only [Act.put, List.setIfInBounds_toArray, List.set_cons_zero, List.set_cons_succ]
  refine bq_call (vI u) 7 #[.agg #[.bool n, .string s], .agg #[.bool m, .string t]] (by kernel_rfl) (fun w' => by go_simp) (fun w' hC => (HAdd.out w').mono (fun e w'' h => ⟨h.1, h.2⟩)) ?_
  simp only [Act.put, List.setIfInBounds_toArray, List.set_cons_zero, List.set_cons_succ]
  refine bq_run (.agg #[.bool n, .string s]) (by kernel_rfl) (fun w' hC => by obtain ⟨q0, q1⟩ := (t2.below hC t2.lt).cells2; go_simp) ?_
  simp only [Act.put, List.setIfInBounds_toArray, List.set_cons_zero, List.set_cons_succ]
  refine bq_run (.agg #[.bool m, .string t]) (by kernel_rfl) (fun w' hC => by obtain ⟨q0, q1⟩ := (t3.below hC t3.lt).cells2; go_simp) ?_
  simp only [Act.put, List.setIfInBounds_toArray, List.set_cons_zero, List.set_cons_succ]
  refine bq_call (vI v) 8 #[.agg #[.bool n, .string s], .agg #[.bool m, .string t]] (by kernel_rfl) (fun w' => by go_simp) (fun w' hC => (HSub.out w').mono (fun e w'' h => ⟨h.1, h.2⟩)) ?_
  simp only [Act.put, List.setIfInBounds_toArray, List.set_cons_zero, List.set_cons_succ]
  refine bq_run (.agg #[.bool n, .string s]) (by kernel_rfl) (fun w' hC => by obtain ⟨q0, q1⟩ := (t2.below hC t2.lt).cells2; go_simp) ?_
  simp only [Act.put, List.setIfInBounds_toArray, List.set_cons_zero, List.set_cons_succ]
  refine bq_run (.agg #[.bool m, .string t]) (by kernel_rfl) (fun w' hC => by obtain ⟨q0, q1⟩ := (t3.below hC t3.lt).cells2; go_simp) ?_
  simp only [Act.put, List.setIfInBounds_toArray, List.set_cons_zero, List.set_cons_succ]
  refine bq_call (vI p) 9 #[.agg #[.bool n, .string s], .agg #[.bool m, .string t]] (by kernel_rfl) (fun w' => by go_simp) (fun w' hC => (HMul.out w').mono (fun e w'' h => ⟨h.1, h.2⟩)) ?_
  simp only [Act.put, List.setIfInBounds_toArray, List.set_cons_zero, List.set_cons_succ]
  refine bq_nil ?_
  intro bk5a hkbk5a bk5b hkbk5b bk5c hkbk5c W5 hI
  obtain ⟨hb, t5, t6, t7, hd1, hd2, hd3⟩ := hI.at3
  have t5 : Ob W5 bk5a 23 #[.bool false, .string ⟨#[]⟩] := t5
  have t6 : Ob W5 bk5b 23 #[.bool false, .string ⟨#[]⟩] := t6
  have t7 : Ob W5 bk5c 23 #[.bool false, .string ⟨#[]⟩] := t7
  have t2 := t2.below hb t2.lt
  have t3 := t3.below hb t3.lt
  have t12 := t12.below hb t12.lt
  have bl := bl.trans (Below.mono hb bl.size)
  clear hb hI
  try simp only [ptr, Act.put, List.setIfInBounds_toArray, List.set_cons_zero, List.set_cons_succ]
  have fr5 := t5.free
  obtain ⟨z5_0, z5_1⟩ := t5.cells2
  have fr6 := t6.free
  obtain ⟨z6_0, z6_1⟩ := t6.cells2
  have fr7 := t7.free
  obtain ⟨z7_0, z7_1⟩ := t7.cells2
  go_wp2_with fail
  clear fr5 z5_0 z5_1 fr6 z6_0 z6_1 fr7 z7_0 z7_1
  have t2 := t2.far2 (show w.heap.size ≠ bk5a by omega) (.bool (sg u)) (.string (mg u))
  have t3 := t3.far2 (show w.heap.size + 1 ≠ bk5a by omega) (.bool (sg u)) (.string (mg u))
  have t12 := t12.far2 (show bk3 ≠ bk5a by omega) (.bool (sg u)) (.string (mg u))
  have t5 := t5.set2 (.bool (sg u)) (.string (mg u))
  have t6 := t6.far2 (show bk5b ≠ bk5a by omega) (.bool (sg u)) (.string (mg u))
  have t7 := t7.far2 (show bk5c ≠ bk5a by omega) (.bool (sg u)) (.string (mg u))
  have bl := (below_set (below_set bl (show w.heap.size ≤ bk5a by omega) 0 (.bool (sg u))) (show w.heap.size ≤ bk5a by omega) 1 (.string (mg u)))
  have t2 := t2.far2 (show w.heap.size ≠ bk5b by omega) (.bool (sg v)) (.string (mg v))
  have t3 := t3.far2 (show w.heap.size + 1 ≠ bk5b by omega) (.bool (sg v)) (.string (mg v))
  have t12 := t12.far2 (show bk3 ≠ bk5b by omega) (.bool (sg v)) (.string (mg v))
  have t5 := t5.far2 (show bk5a ≠ bk5b by omega) (.bool (sg v)) (.string (mg v))
  have t6 := t6.set2 (.bool (sg v)) (.string (mg v))
  have t7 := t7.far2 (show bk5c ≠ bk5b by omega) (.bool (sg v)) (.string (mg v))
  have bl := (below_set (below_set bl (show w.heap.size ≤ bk5b by omega) 0 (.bool (sg v))) (show w.heap.size ≤ bk5b by omega) 1 (.string (mg v)))
  have t2 := t2.far2 (show w.heap.size ≠ bk5c by omega) (.bool (sg p)) (.string (mg p))
  have t3 := t3.far2 (show w.heap.size + 1 ≠ bk5c by omega) (.bool (sg p)) (.string (mg p))
  have t12 := t12.far2 (show bk3 ≠ bk5c by omega) (.bool (sg p)) (.string (mg p))
  have t5 := t5.far2 (show bk5a ≠ bk5c by omega) (.bool (sg p)) (.string (mg p))
  have t6 := t6.far2 (show bk5b ≠ bk5c by omega) (.bool (sg p)) (.string (mg p))
  have t7 := t7.set2 (.bool (sg p)) (.string (mg p))
  have bl := (below_set (below_set bl (show w.heap.size ≤ bk5c by omega) 0 (.bool (sg p))) (show w.heap.size ≤ bk5c by omega) 1 (.string (mg p)))
  generalize World.setCell (World.setCell (World.setCell (World.setCell (World.setCell (World.setCell W5 _ _) _ _) _ _) _ _) _ _) _ _ = W6 at t2 t3 t12 t5 t6 t7 bl ⊢
  clear l2 l3 l12 lw hkbk5a hkbk5b hkbk5c hd1 hd2 hd3
  refine region_qb (by kernel_rfl) (by kernel_rfl) ?_
  simp only [List.append_eq, List.cons_append, List.nil_append]
  refine qb_run (vI u) (by kernel_rfl) (fun w' hC => by obtain ⟨q0, q1⟩ := (t5.below hC t5.lt).cells2; go_simp) ?_
  simp only [Act.put, List.setIfInBounds_toArray, List.set_cons_zero, List.set_cons_succ]
  refine qb_run (.agg #[.bool n, .string s]) (by kernel_rfl) (fun w' hC => by obtain ⟨q0, q1⟩ := (t2.below hC t2.lt).cells2; go_simp) ?_
  simp only [Act.put, List.setIfInBounds_toArray, List.set_cons_zero, List.set_cons_succ]
  refine qb_run (.agg #[.bool m, .string t]) (by kernel_rfl) (fun w' hC => by obtain ⟨q0, q1⟩ := (t3.below hC t3.lt).cells2; go_simp) ?_
  simp only [Act.put, List.setIfInBounds_toArray, List.set_cons_zero, List.set_cons_succ]
  refine qb_call (vI u) 10 #[.agg #[.bool n, .string s], .agg #[.bool m, .string t]] (by kernel_rfl) (fun w' => by go_simp) (fun w' hC => (HRAdd.out w').mono (fun e w'' h => ⟨h.1, hC.step h.2⟩)) ?_
  simp only [Act.put, List.setIfInBounds_toArray, List.set_cons_zero, List.set_cons_succ]
  refine qb_run (.bool true) (by kernel_rfl) (fun w' hC => by go_simp) ?_
  simp only [Act.put, List.setIfInBounds_toArray, List.set_cons_zero, List.set_cons_succ]
  refine qb_mv (.bool true) _ (.inl rfl) (by kernel_rfl) (by rfl) ?_
  simp only [Act.put, List.setIfInBounds_toArray, List.set_cons_zero, List.set_cons_succ]
  refine qb_run (vI v) (by kernel_rfl) (fun w' hC => by obtain ⟨q0, q1⟩ := (t6.below hC t6.lt).cells2; go_simp) ?_
  simp only [Act.put, List.setIfInBounds_toArray, List.set_cons_zero, List.set_cons_succ]
  refine qb_run (.agg #[.bool n, .string s]) (by kernel_rfl) (fun w' hC => by obtain ⟨q0, q1⟩ := (t2.below hC t2.lt).cells2; go_simp) ?_
  simp only [Act.put, List.setIfInBounds_toArray, List.set_cons_zero, List.set_cons_succ]
  refine qb_run (.agg #[.bool m, .string t]) (by kernel_rfl) (fun w' hC => by obtain ⟨q0, q1⟩ := (t3.below hC t3.lt).cells2; go_simp) ?_
  simp only [Act.put, List.setIfInBounds_toArray, List.set_cons_zero, List.set_cons_succ]
  refine qb_call (vI v) 11 #[.agg #[.bool n, .string s], .agg #[.bool m, .string t]] (by kernel_rfl) (fun w' => by go_simp) (fun w' hC => (HRSub.out w').mono (fun e w'' h => ⟨h.1, hC.step h.2⟩)) ?_
  simp only [Act.put, List.setIfInBounds_toArray, List.set_cons_zero, List.set_cons_succ]
  refine qb_run (.bool true) (by kernel_rfl) (fun w' hC => by go_simp) ?_
  simp only [Act.put, List.setIfInBounds_toArray, List.set_cons_zero, List.set_cons_succ]
  refine qb_run (.bool true) (by kernel_rfl) (fun w' hC => by go_simp) ?_
  simp only [Act.put, List.setIfInBounds_toArray, List.set_cons_zero, List.set_cons_succ]
  refine qb_mv (.bool true) _ (.inl rfl) (by kernel_rfl) (by rfl) ?_
  simp only [Act.put, List.setIfInBounds_toArray, List.set_cons_zero, List.set_cons_succ]
  refine qb_run (vI p) (by kernel_rfl) (fun w' hC => by obtain ⟨q0, q1⟩ := (t7.below hC t7.lt).cells2; go_simp) ?_
  simp only [Act.put, List.setIfInBounds_toArray, List.set_cons_zero, List.set_cons_succ]
  refine qb_run (.agg #[.bool n, .string s]) (by kernel_rfl) (fun w' hC => by obtain ⟨q0, q1⟩ := (t2.below hC t2.lt).cells2; go_simp) ?_
  simp only [Act.put, List.setIfInBounds_toArray, List.set_cons_zero, List.set_cons_succ]
  refine qb_run (.agg #[.bool m, .string t]) (by kernel_rfl) (fun w' hC => by obtain ⟨q0, q1⟩ := (t3.below hC t3.lt).cells2; go_simp) ?_
  simp only [Act.put, List.setIfInBounds_toArray, List.set_cons_zero, List.set_cons_succ]
  refine qb_call (vI p) 12 #[.agg #[.bool n, .string s], .agg #[.bool m, .string t]] (by kernel_rfl) (fun w' => by go_simp) (fun w' hC => (HRMul.out w').mono (fun e w'' h => ⟨h.1, hC.step h.2⟩)) ?_
  simp only [Act.put, List.setIfInBounds_toArray, List.set_cons_zero, List.set_cons_succ]
  refine qb_run (.bool true) (by kernel_rfl) (fun w' hC => by go_simp) ?_
  simp only [Act.put, List.setIfInBounds_toArray, List.set_cons_zero, List.set_cons_succ]
  refine qb_run (.bool true) (by kernel_rfl) (fun w' hC => by go_simp) ?_
  simp only [Act.put, List.setIfInBounds_toArray, List.set_cons_zero, List.set_cons_succ]
  refine qb_mv (.bool true) _ (.inl rfl) (by kernel_rfl) (by rfl) ?_
  simp only [Act.put, List.setIfInBounds_toArray, List.set_cons_zero, List.set_cons_succ]
  refine qb_run (vI u) (by kernel_rfl) (fun w' hC => by obtain ⟨q0, q1⟩ := (t5.below hC t5.lt).cells2; go_simp) ?_
  simp only [Act.put, List.setIfInBounds_toArray, List.set_cons_zero, List.set_cons_succ]
  refine qb_call (.bool true) 13 #[vI u] (by kernel_rfl) (fun w' => by go_simp) (fun w' hC => ((HY u w').out).mono (fun e w'' h => ⟨h.1, hC.step h.2⟩)) ?_
  simp only [Act.put, List.setIfInBounds_toArray, List.set_cons_zero, List.set_cons_succ]
  refine qb_run (.bool true) (by kernel_rfl) (fun w' hC => by go_simp) ?_
  simp only [Act.put, List.setIfInBounds_toArray, List.set_cons_zero, List.set_cons_succ]
  refine qb_mv (.bool true) _ (.inl rfl) (by kernel_rfl) (by rfl) ?_
  simp only [Act.put, List.setIfInBounds_toArray, List.set_cons_zero, List.set_cons_succ]
  refine qb_run (vI v) (by kernel_rfl) (fun w' hC => by obtain ⟨q0, q1⟩ := (t6.below hC t6.lt).cells2; go_simp) ?_
  simp only [Act.put, List.setIfInBounds_toArray, List.set_cons_zero, List.set_cons_succ]
  refine qb_call (.bool true) 13 #[vI v] (by kernel_rfl) (fun w' => by go_simp) (fun w' hC => ((HY v w').out).mono (fun e w'' h => ⟨h.1, hC.step h.2⟩)) ?_
  simp only [Act.put, List.setIfInBounds_toArray, List.set_cons_zero, List.set_cons_succ]
  refine qb_run (.bool true) (by kernel_rfl) (fun w' hC => by go_simp) ?_
  simp only [Act.put, List.setIfInBounds_toArray, List.set_cons_zero, List.set_cons_succ]
  refine qb_mv (.bool true) _ (.inl rfl) (by kernel_rfl) (by rfl) ?_
  simp only [Act.put, List.setIfInBounds_toArray, List.set_cons_zero, List.set_cons_succ]
  refine qb_run (vI p) (by kernel_rfl) (fun w' hC => by obtain ⟨q0, q1⟩ := (t7.below hC t7.lt).cells2; go_simp) ?_
  simp only [Act.put, List.setIfInBounds_toArray, List.set_cons_zero, List.set_cons_succ]
  refine qb_call (.bool true) 13 #[vI p] (by kernel_rfl) (fun w' => by go_simp) (fun w' hC => ((HY p w').out).mono (fun e w'' h => ⟨h.1, hC.step h.2⟩)) ?_
  simp only [Act.put, List.setIfInBounds_toArray, List.set_cons_zero, List.set_cons_succ]
  refine qb_run (.bool true) (by kernel_rfl) (fun w' hC => by go_simp) ?_
  simp only [Act.put, List.setIfInBounds_toArray, List.set_cons_zero, List.set_cons_succ]
  refine qb_mv (.bool true) _ (.inl rfl) (by kernel_rfl) (by rfl) ?_
  simp only [Act.put, List.setIfInBounds_toArray, List.set_cons_zero, List.set_cons_succ]
  refine qb_run (.agg #[.bool n, .string s]) (by kernel_rfl) (fun w' hC => by obtain ⟨q0, q1⟩ := (t2.below hC t2.lt).cells2; go_simp) ?_
  simp only [Act.put, List.setIfInBounds_toArray, List.set_cons_zero, List.set_cons_succ]
  refine qb_call (vI na) 14 #[.agg #[.bool n, .string s]] (by kernel_rfl) (fun w' => by go_simp) (fun w' hC => (HNeg.out w').mono (fun e w'' h => ⟨h.1, hC.step h.2⟩)) ?_
  simp only [Act.put, List.setIfInBounds_toArray, List.set_cons_zero, List.set_cons_succ]
  refine qb_run (.agg #[.bool n, .string s]) (by kernel_rfl) (fun w' hC => by obtain ⟨q0, q1⟩ := (t2.below hC t2.lt).cells2; go_simp) ?_
  simp only [Act.put, List.setIfInBounds_toArray, List.set_cons_zero, List.set_cons_succ]
  refine qb_call (vI na) 15 #[.agg #[.bool n, .string s]] (by kernel_rfl) (fun w' => by go_simp) (fun w' hC => (HRNeg.out w').mono (fun e w'' h => ⟨h.1, hC.step h.2⟩)) ?_
  simp only [Act.put, List.setIfInBounds_toArray, List.set_cons_zero, List.set_cons_succ]
  refine qb_run (.bool true) (by kernel_rfl) (fun w' hC => by go_simp) ?_
  simp only [Act.put, List.setIfInBounds_toArray, List.set_cons_zero, List.set_cons_succ]
  refine qb_run (.bool true) (by kernel_rfl) (fun w' hC => by go_simp) ?_
  simp only [Act.put, List.setIfInBounds_toArray, List.set_cons_zero, List.set_cons_succ]
  refine qb_mv (.bool true) _ (.inl rfl) (by kernel_rfl) (by rfl) ?_
  simp only [Act.put, List.setIfInBounds_toArray, List.set_cons_zero, List.set_cons_succ]
  refine qb_run (.agg #[.bool n, .string s]) (by kernel_rfl) (fun w' hC => by obtain ⟨q0, q1⟩ := (t2.below hC t2.lt).cells2; go_simp) ?_
  simp only [Act.put, List.setIfInBounds_toArray, List.set_cons_zero, List.set_cons_succ]
  refine qb_call (vI aa) 16 #[.agg #[.bool n, .string s]] (by kernel_rfl) (fun w' => by go_simp) (fun w' hC => (HAbs.out w').mono (fun e w'' h => ⟨h.1, hC.step h.2⟩)) ?_
  simp only [Act.put, List.setIfInBounds_toArray, List.set_cons_zero, List.set_cons_succ]
  refine qb_run (.agg #[.bool n, .string s]) (by kernel_rfl) (fun w' hC => by obtain ⟨q0, q1⟩ := (t2.below hC t2.lt).cells2; go_simp) ?_
  simp only [Act.put, List.setIfInBounds_toArray, List.set_cons_zero, List.set_cons_succ]
  refine qb_call (vI aa) 17 #[.agg #[.bool n, .string s]] (by kernel_rfl) (fun w' => by go_simp) (fun w' hC => (HRAbs.out w').mono (fun e w'' h => ⟨h.1, hC.step h.2⟩)) ?_
  simp only [Act.put, List.setIfInBounds_toArray, List.set_cons_zero, List.set_cons_succ]
  refine qb_run (.bool true) (by kernel_rfl) (fun w' hC => by go_simp) ?_
  simp only [Act.put, List.setIfInBounds_toArray, List.set_cons_zero, List.set_cons_succ]
  refine qb_run (.bool true) (by kernel_rfl) (fun w' hC => by go_simp) ?_
  simp only [Act.put, List.setIfInBounds_toArray, List.set_cons_zero, List.set_cons_succ]
  refine qb_mv (.bool true) _ (.inl rfl) (by kernel_rfl) (by rfl) ?_
  simp only [Act.put, List.setIfInBounds_toArray, List.set_cons_zero, List.set_cons_succ]
  refine qb_run (.agg #[.bool n, .string s]) (by kernel_rfl) (fun w' hC => by obtain ⟨q0, q1⟩ := (t2.below hC t2.lt).cells2; go_simp) ?_
  simp only [Act.put, List.setIfInBounds_toArray, List.set_cons_zero, List.set_cons_succ]
  refine qb_call (.int .i64 sn) 18 #[.agg #[.bool n, .string s]] (by kernel_rfl) (fun w' => by go_simp) (fun w' hC => (HSign.out w').mono (fun e w'' h => ⟨h.1, hC.step h.2⟩)) ?_
  simp only [Act.put, List.setIfInBounds_toArray, List.set_cons_zero, List.set_cons_succ]
  refine qb_run (.agg #[.bool n, .string s]) (by kernel_rfl) (fun w' hC => by obtain ⟨q0, q1⟩ := (t2.below hC t2.lt).cells2; go_simp) ?_
  simp only [Act.put, List.setIfInBounds_toArray, List.set_cons_zero, List.set_cons_succ]
  refine qb_call (.int .i64 sn) 19 #[.agg #[.bool n, .string s]] (by kernel_rfl) (fun w' => by go_simp) (fun w' hC => (HRSign.out w').mono (fun e w'' h => ⟨h.1, hC.step h.2⟩)) ?_
  simp only [Act.put, List.setIfInBounds_toArray, List.set_cons_zero, List.set_cons_succ]
  refine qb_run (.bool true) (by kernel_rfl) (fun w' hC => by go_simp) ?_
  simp only [Act.put, List.setIfInBounds_toArray, List.set_cons_zero, List.set_cons_succ]
  refine qb_run (.bool true) (by kernel_rfl) (fun w' hC => by go_simp) ?_
  simp only [Act.put, List.setIfInBounds_toArray, List.set_cons_zero, List.set_cons_succ]
  refine qb_mv (.bool true) _ (.inl rfl) (by kernel_rfl) (by rfl) ?_
  simp only [Act.put, List.setIfInBounds_toArray, List.set_cons_zero, List.set_cons_succ]
  refine qb_run (.agg #[.bool n, .string s]) (by kernel_rfl) (fun w' hC => by obtain ⟨q0, q1⟩ := (t2.below hC t2.lt).cells2; go_simp) ?_
  simp only [Act.put, List.setIfInBounds_toArray, List.set_cons_zero, List.set_cons_succ]
  refine qb_run (.agg #[.bool m, .string t]) (by kernel_rfl) (fun w' hC => by obtain ⟨q0, q1⟩ := (t3.below hC t3.lt).cells2; go_simp) ?_
  simp only [Act.put, List.setIfInBounds_toArray, List.set_cons_zero, List.set_cons_succ]
  refine qb_call (.int .i64 co) 20 #[.agg #[.bool n, .string s], .agg #[.bool m, .string t]] (by kernel_rfl) (fun w' => by go_simp) (fun w' hC => (HCmp.out w').mono (fun e w'' h => ⟨h.1, hC.step h.2⟩)) ?_
  simp only [Act.put, List.setIfInBounds_toArray, List.set_cons_zero, List.set_cons_succ]
  refine qb_run (.agg #[.bool n, .string s]) (by kernel_rfl) (fun w' hC => by obtain ⟨q0, q1⟩ := (t2.below hC t2.lt).cells2; go_simp) ?_
  simp only [Act.put, List.setIfInBounds_toArray, List.set_cons_zero, List.set_cons_succ]
  refine qb_run (.agg #[.bool m, .string t]) (by kernel_rfl) (fun w' hC => by obtain ⟨q0, q1⟩ := (t3.below hC t3.lt).cells2; go_simp) ?_
  simp only [Act.put, List.setIfInBounds_toArray, List.set_cons_zero, List.set_cons_succ]
  refine qb_call (.int .i64 co) 21 #[.agg #[.bool n, .string s], .agg #[.bool m, .string t]] (by kernel_rfl) (fun w' => by go_simp) (fun w' hC => (HRCmp.out w').mono (fun e w'' h => ⟨h.1, hC.step h.2⟩)) ?_
  simp only [Act.put, List.setIfInBounds_toArray, List.set_cons_zero, List.set_cons_succ]
  refine qb_run (.bool true) (by kernel_rfl) (fun w' hC => by go_simp) ?_
  simp only [Act.put, List.setIfInBounds_toArray, List.set_cons_zero, List.set_cons_succ]
  refine qb_run (.bool true) (by kernel_rfl) (fun w' hC => by go_simp) ?_
  simp only [Act.put, List.setIfInBounds_toArray, List.set_cons_zero, List.set_cons_succ]
  refine qb_mv (.bool true) _ (.inl rfl) (by kernel_rfl) (by rfl) ?_
  simp only [Act.put, List.setIfInBounds_toArray, List.set_cons_zero, List.set_cons_succ]
  refine qb_run (.agg #[.bool n, .string s]) (by kernel_rfl) (fun w' hC => by obtain ⟨q0, q1⟩ := (t2.below hC t2.lt).cells2; go_simp) ?_
  simp only [Act.put, List.setIfInBounds_toArray, List.set_cons_zero, List.set_cons_succ]
  refine qb_call (.int .i64 bi) 22 #[.agg #[.bool n, .string s]] (by kernel_rfl) (fun w' => by go_simp) (fun w' hC => (HBits.out w').mono (fun e w'' h => ⟨h.1, hC.step h.2⟩)) ?_
  simp only [Act.put, List.setIfInBounds_toArray, List.set_cons_zero, List.set_cons_succ]
  refine qb_run (.agg #[.bool n, .string s]) (by kernel_rfl) (fun w' hC => by obtain ⟨q0, q1⟩ := (t2.below hC t2.lt).cells2; go_simp) ?_
  simp only [Act.put, List.setIfInBounds_toArray, List.set_cons_zero, List.set_cons_succ]
  refine qb_call (.int .i64 bi) 23 #[.agg #[.bool n, .string s]] (by kernel_rfl) (fun w' => by go_simp) (fun w' hC => (HRBits.out w').mono (fun e w'' h => ⟨h.1, hC.step h.2⟩)) ?_
  simp only [Act.put, List.setIfInBounds_toArray, List.set_cons_zero, List.set_cons_succ]
  refine qb_run (.bool true) (by kernel_rfl) (fun w' hC => by go_simp) ?_
  simp only [Act.put, List.setIfInBounds_toArray, List.set_cons_zero, List.set_cons_succ]
  refine qb_run (.bool true) (by kernel_rfl) (fun w' hC => by go_simp) ?_
  simp only [Act.put, List.setIfInBounds_toArray, List.set_cons_zero, List.set_cons_succ]
  refine qb_mv (.bool true) _ (.inl rfl) (by kernel_rfl) (by rfl) ?_
  simp only [Act.put, List.setIfInBounds_toArray, List.set_cons_zero, List.set_cons_succ]
  refine qb_run (.agg #[.bool n, .string s]) (by kernel_rfl) (fun w' hC => by obtain ⟨q0, q1⟩ := (t2.below hC t2.lt).cells2; go_simp) ?_
  simp only [Act.put, List.setIfInBounds_toArray, List.set_cons_zero, List.set_cons_succ]
  refine qb_call (.bool bv) 24 #[.agg #[.bool n, .string s]] (by kernel_rfl) (fun w' => by go_simp) (fun w' hC => (HValid.out w').mono (fun e w'' h => ⟨h.1, hC.step h.2⟩)) ?_
  simp only [Act.put, List.setIfInBounds_toArray, List.set_cons_zero, List.set_cons_succ]
  refine qb_run (.agg #[.bool n, .string s]) (by kernel_rfl) (fun w' hC => by obtain ⟨q0, q1⟩ := (t2.below hC t2.lt).cells2; go_simp) ?_
  simp only [Act.put, List.setIfInBounds_toArray, List.set_cons_zero, List.set_cons_succ]
  refine qb_call (.bool bv) 13 #[.agg #[.bool n, .string s]] (by kernel_rfl) (fun w' => by go_simp) (fun w' hC => (HRValid.out w').mono (fun e w'' h => ⟨h.1, hC.step h.2⟩)) ?_
  simp only [Act.put, List.setIfInBounds_toArray, List.set_cons_zero, List.set_cons_succ]
  refine qb_run (.bool true) (by kernel_rfl) (fun w' hC => by go_simp) ?_
  simp only [Act.put, List.setIfInBounds_toArray, List.set_cons_zero, List.set_cons_succ]
  refine qb_run (.bool true) (by kernel_rfl) (fun w' hC => by go_simp) ?_
  simp only [Act.put, List.setIfInBounds_toArray, List.set_cons_zero, List.set_cons_succ]
  refine qb_mv (.bool true) _ (.inr rfl) (by kernel_rfl) (by rfl) ?_
  simp only [Act.put, List.setIfInBounds_toArray, List.set_cons_zero, List.set_cons_succ]
  refine wpQuiet_nil (fun W7 hb => ?_)
  have t2 := t2.below hb t2.lt
  have t3 := t3.below hb t3.lt
  have t12 := t12.below hb t12.lt
  have t5 := t5.below hb t5.lt
  have t6 := t6.below hb t6.lt
  have t7 := t7.below hb t7.lt
  have bl := bl.trans (Below.mono hb bl.size)
  clear hb
  go_wp2_with fail
  go_ret
  exact ⟨rfl, bl⟩

theorem Arith_all (n m : Bool) (s t : ByteArray) (w : World) (ht : HasTab w) : Calls Tryz.prog 3 #[.agg #[.bool n, .string s], .agg #[.bool m, .string t]] w (RetB true w) := by
  have HAW : ∀ W, Below w.heap.size w W → Calls Tryz.prog 5 #[] W (RetB true W) := fun W h => awake_any W (ht.below h)
  have HFW := fun (A : Option Addr) c W h => few_any A c [(n, s), (m, t)] W h (by simp)
  cases hr : ([(n, s), (m, t)].all fun p => decide (p.2.size ≤ 60)) with
  | false =>
    rw [hr] at HFW
    exact Arith_no n m s t w HAW HFW
  | true =>
    rw [hr] at HFW
    simp only [List.all_cons, List.all_nil, Bool.and_true, Bool.and_eq_true, decide_eq_true_eq] at hr
    obtain ⟨f1, f2⟩ := hr
    cases v1 : vld n s with
    | false =>
      exact Arith_walk n m s t 0 0 0 0 0 0 0 0 false w HAW HFW (fun W => Add_bad1 n m s t W v1) (fun W => Sub_bad1 n m s t W v1) (fun W => Mul_bad1 n m s t W v1) (fun W => RAdd_bad1 n m s t W v1) (fun W => RSub_bad1 n m s t W v1) (fun W => RMul_bad1 n m s t W v1)
        (fun W => Neg_bad n s W v1) (fun W => Abs_bad n s W v1) (fun W => RNeg_bad n s W v1) (fun W => RAbs_bad n s W v1) (fun W => Sign_bad n s W v1) (fun W => Bits_bad n s W v1) (fun W => RSign_bad n s W v1) (fun W => RBits_bad n s W v1)
        (fun W => Cmp_bad1 n m s t W v1) (fun W => RCmp_bad1 n m s t W v1) (fun W => Valid_no n s W v1) (fun W => RValid_no n s W v1)
    | true =>
      obtain ⟨e1, e2⟩ := vld_form v1
      generalize ival n s = x at *
      have hx : Bd 60 x := (Bd.of_size x).mono (by rw [← e2]; exact f1)
      cases v2 : vld m t with
      | false =>
        have q1 : ∀ W, Calls Tryz.prog 14 #[.agg #[.bool n, .string s]] W (RetI (-x) W) := fun W => by rw [e1, e2]; exact Neg_any x W
        have q2 : ∀ W, Calls Tryz.prog 16 #[.agg #[.bool n, .string s]] W (RetI (x.natAbs : Int) W) := fun W => by rw [e1, e2]; exact Abs_any x W
        have q3 : ∀ W, Calls Tryz.prog 15 #[.agg #[.bool n, .string s]] W (RetI (-x) W) := fun W => by rw [e1, e2]; exact RNeg_any x W
        have q4 : ∀ W, Calls Tryz.prog 17 #[.agg #[.bool n, .string s]] W (RetI (x.natAbs : Int) W) := fun W => by rw [e1, e2]; exact RAbs_any x W
        have q5 : ∀ W, Calls Tryz.prog 18 #[.agg #[.bool n, .string s]] W (RetN x.sign W) := fun W => by rw [e1, e2]; exact Sign_any x W
        have q6 : ∀ W, Calls Tryz.prog 22 #[.agg #[.bool n, .string s]] W (RetN (nbits x.natAbs) W) := fun W => by rw [e1, e2]; exact Bits_any x W (hx.mono (by omega))
        have q7 : ∀ W, Calls Tryz.prog 19 #[.agg #[.bool n, .string s]] W (RetN x.sign W) := fun W => by rw [e1, e2]; exact RSign_any x W
        have q8 : ∀ W, Calls Tryz.prog 23 #[.agg #[.bool n, .string s]] W (RetN (nbits x.natAbs) W) := fun W => by rw [e1, e2]; exact RBits_any x W (hx.mono (by omega))
        exact Arith_walk n m s t 0 0 0 _ _ _ 0 _ true w HAW HFW (fun W => Add_bad2 n m s t W v1 v2) (fun W => Sub_bad2 n m s t W v1 v2) (fun W => Mul_bad2 n m s t W v1 v2) (fun W => RAdd_bad2 n m s t W v1 v2) (fun W => RSub_bad2 n m s t W v1 v2) (fun W => RMul_bad2 n m s t W v1 v2)
          q1 q2 q3 q4 q5 q6 q7 q8 (fun W => Cmp_bad2 n m s t W v1 v2) (fun W => RCmp_bad2 n m s t W v1 v2) (fun W => Valid_ok n s W v1) (fun W => by have := RValid_any n s W; rwa [v1] at this)
      | true =>
        obtain ⟨e3, e4⟩ := vld_form v2
        generalize ival m t = y at *
        subst e1 e2 e3 e4
        have hy : Bd 60 y := (Bd.of_size y).mono f2
        exact Arith_walk _ _ _ _ (x + y) (x - y) (x * y) (-x) (x.natAbs : Int) x.sign (x - y).sign (nbits x.natAbs) true w HAW HFW
          (fun W => Add_any x y W (hx.mono (by omega)) (hy.mono (by omega))) (fun W => Sub_any x y W (hx.mono (by omega)) (hy.mono (by omega))) (fun W => Mul_any x y W (hx.mono (by omega)) (hy.mono (by omega)))
          (fun W => RAdd_any x y W (hx.mono (by omega)) (hy.mono (by omega))) (fun W => RSub_any x y W (hx.mono (by omega)) (hy.mono (by omega))) (fun W => RMul_any x y W (hx.mono (by omega)) (hy.mono (by omega)))
          (Neg_any x) (Abs_any x) (RNeg_any x) (RAbs_any x) (Sign_any x) (fun W => Bits_any x W (hx.mono (by omega))) (RSign_any x) (fun W => RBits_any x W (hx.mono (by omega)))
          (fun W => Cmp_any x y W (hx.mono (by omega)) (hy.mono (by omega))) (fun W => RCmp_any x y W (hx.mono (by omega)) (hy.mono (by omega))) (Valid_yes x) (RValid_yes x)
end Go.Proofs.YtboolbcckfldaaaGreatDoor
