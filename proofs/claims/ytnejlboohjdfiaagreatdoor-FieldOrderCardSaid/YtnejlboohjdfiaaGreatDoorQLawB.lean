import Derived.Test.YtnejlboohjdfiaaGreatDoorQLawA
import Derived.Test.YtnejlboohjdfiaaGreatDoorQB
namespace Go.Proofs.YtnejlboohjdfiaaGreatDoor
open Go.RowKit
set_option linter.unusedVariables false
set_option linter.unusedSimpArgs false

theorem Bd.small {k : Nat} (hk : 1 ≤ k) {x : Int} (h : x.natAbs < 256) : Bd k x := by
  have h1 : Bd 1 x := by unfold Bd; simpa using h
  exact h1.mono hk

theorem Print_2_70 (p : Int) (hp : p = 2 ^ 70) (w : World) (ht : HasTab w) : Calls Tryz.prog 65 #[vI p] w fun e w' => e = .returned (.string ⟨#[49, 49, 56, 48, 53, 57, 49, 54, 50, 48, 55, 49, 55, 52, 49, 49, 51, 48, 51, 52, 50, 52]⟩) ∧ Below w.heap.size w w' := by
  have hb : Bd 100000000 p := by
    have : Bd 10 p := by unfold Bd; subst hp; decide
    exact this.mono (by omega)
  refine (Print_any p w hb ht).mono ?_
  rintro e w' ⟨rfl, h⟩
  refine ⟨?_, h⟩
  have : Lib.itoa p = [49, 49, 56, 48, 53, 57, 49, 54, 50, 48, 55, 49, 55, 52, 49, 49, 51, 48, 51, 52, 50, 52] := by
    rw [show p = ((1180591620717411303424 : Nat) : Int) from by rw [hp]; rfl, Lib.itoa_nonneg]
    simp [Lib.decDigits]
  rw [this]; rfl

theorem DivMod_m7 (a b q r : Int) (ha : a = -7) (hb : b = 2) (hq : q = -4) (hr : r = 1) (w : World) : Calls Tryz.prog 15 #[vI a, vI b] w (RetIIE q r 0 w) := by
  have h := DivMod_any a b w (Bd.small (by omega) (by subst ha; decide)) (Bd.small (by omega) (by subst hb; decide)) (by omega)
  rw [show a.fdiv b = q from by subst ha hb hq; rfl, show a.fmod b = r from by subst ha hb hr; rfl] at h
  exact h

theorem Pow_2_70 (b p : Int) (hb : b = 2) (hp : p = 2 ^ 70) (w : World) : Calls Tryz.prog 63 #[vI b, .int .i64 70] w (RetIE p 0 w) := by
  have h := Pow_any b 70 w (Bd.small (by omega) (by subst hb; decide)) (by omega)
  rw [show b ^ 70 = p from by rw [hb, hp]] at h
  exact h

theorem Sqrt_2_70 (p s : Int) (hp : p = 2 ^ 70) (hs : s = 2 ^ 35) (w : World) : Calls Tryz.prog 64 #[vI p] w (RetIE s 0 w) := by
  have e : p = ((1180591620717411303424 : Nat) : Int) := by rw [hp]; rfl
  have hb : Bd 100000000 p := by
    have : Bd 10 p := by unfold Bd; subst hp; decide
    exact this.mono (by omega)
  rw [e] at hb ⊢
  refine (Sqrt_any 1180591620717411303424 w hb (by omega)).mono ?_
  rintro e w' ⟨r, h, h1, h2⟩
  have hr : r = 34359738368 := sqrt_uniq h1 h2 (by decide) (by decide)
  rw [show s = ((r : Nat) : Int) from by rw [hs, hr]; rfl]
  exact h

set_option maxHeartbeats 1000000 in
set_option maxRecDepth 100000 in
theorem awake_any (w : World) (ht : HasTab w) : Calls Tryz.prog 13 #[] w (RetB true w) := by
  obtain ⟨m7, hm7⟩ : ∃ m : Int, m = -7 := ⟨_, rfl⟩
  obtain ⟨two, htwo⟩ : ∃ m : Int, m = 2 := ⟨_, rfl⟩
  obtain ⟨q4, hq4⟩ : ∃ m : Int, m = -4 := ⟨_, rfl⟩
  obtain ⟨one, hone⟩ : ∃ m : Int, m = 1 := ⟨_, rfl⟩
  obtain ⟨p, hp⟩ : ∃ m : Int, m = 2 ^ 70 := ⟨_, rfl⟩
  obtain ⟨s, hs⟩ : ∃ m : Int, m = 2 ^ 35 := ⟨_, rfl⟩
  have H1 : ∀ W, Hid (Calls Tryz.prog 62 #[.int .i64 (-7)] W (RetI m7 W)) := fun W => Lib.hid (by rw [hm7]; exact Of_any (-7) W (by omega) (by omega))
  have H2 : ∀ W, Hid (Calls Tryz.prog 62 #[.int .i64 2] W (RetI two W)) := fun W => Lib.hid (by rw [htwo]; exact Of_any 2 W (by omega) (by omega))
  have H3 := fun W => Lib.hid (DivMod_m7 m7 two q4 one hm7 htwo hq4 hone W)
  have H4 := fun W => Lib.hid (Pow_2_70 two p htwo hp W)
  have H5 := fun W => Lib.hid (Sqrt_2_70 p s hp hs W)
  have H6 : ∀ W, Hid (Calls Tryz.prog 49 #[.int .i64 (-4)] W (RetI q4 W)) := fun W => Lib.hid (by rw [hq4]; exact ROf_any (-4) W (by omega) (by omega))
  have H7 : ∀ W, Hid (Calls Tryz.prog 49 #[.int .i64 1] W (RetI one W)) := fun W => Lib.hid (by rw [hone]; exact ROf_any 1 W (by omega) (by omega))
  have H8 := fun W h => Lib.hid (Print_2_70 p hp W h)
  have H9 : ∀ W, Hid (Calls Tryz.prog 49 #[.int .i64 34359738368] W (RetI s W)) := fun W => Lib.hid (by rw [hs]; exact ROf_any 34359738368 W (by omega) (by omega))
  have H10 := fun W => Lib.hid (Valid_yes p W)
  have HT := Lib.hid ht
  clear ht hm7 htwo hq4 hone hp hs
  go_enter Tryz.func13, Tryz.ntmps13
  go_wp2_with fail
  refine (H1 w).out.mono ?_
  rintro e W1 ⟨rfl, hb1⟩
  go_wp2_with fail
  refine (H2 W1).out.mono ?_
  rintro e W2 ⟨rfl, hb2⟩
  go_wp2_with fail
  refine (H3 W2).out.mono ?_
  rintro e W3 ⟨rfl, hb3⟩
  have b3 := (hb1.trans (hb2.mono hb1.size)).trans (hb3.mono (Nat.le_trans hb1.size hb2.size))
  clear hb1 hb2 hb3 H1 H3
  go_wp2_with fail
  have t1 := (Two.new W3 23 (.bool (sg q4)) (.string (mg q4))).alloc (.cells #[.bool (sg one), .string (mg one)] 23)
  have t2 := Two.new (W3.alloc (.cells #[.bool (sg q4), .string (mg q4)] 23)) 23 (.bool (sg one)) (.string (mg one))
  have b4 := (b3.alloc b3.size (.cells #[.bool (sg q4), .string (mg q4)] 23)).alloc (by have := b3.size; simp; omega) (.cells #[.bool (sg one), .string (mg one)] 23)
  rw [World.size_alloc] at t2
  have c1 := b3.size
  generalize hn1 : W3.heap.size = n1 at t1 t2 b4 c1 ⊢
  generalize World.alloc (World.alloc W3 _) _ = W4 at t1 t2 b4 ⊢
  clear hn1 b3
  refine (H2 W4).out.mono ?_
  rintro e W5 ⟨rfl, hb5⟩
  go_wp2_with fail
  refine (H4 W5).out.mono ?_
  rintro e W6 ⟨rfl, hb6⟩
  have b6 := (b4.trans (hb5.mono b4.size)).trans (hb6.mono (Nat.le_trans b4.size hb5.size))
  have t1 := (t1.below hb5 t1.lt).below hb6 (Nat.lt_of_lt_of_le t1.lt hb5.size)
  have t2 := (t2.below hb5 t2.lt).below hb6 (Nat.lt_of_lt_of_le t2.lt hb5.size)
  clear hb5 hb6 H2 H4 b4
  go_wp2_with fail
  have t3 := Two.new W6 23 (.bool (sg p)) (.string (mg p))
  have t1 := t1.alloc (.cells #[.bool (sg p), .string (mg p)] 23)
  have t2 := t2.alloc (.cells #[.bool (sg p), .string (mg p)] 23)
  have b7 := b6.alloc b6.size (.cells #[.bool (sg p), .string (mg p)] 23)
  have c2 := b6.size
  generalize hn2 : W6.heap.size = n2 at t3 b7 c2 ⊢
  generalize World.alloc W6 _ = W7 at t1 t2 t3 b7 ⊢
  clear hn2 b6
  obtain ⟨x0, x1⟩ := t3.cells
  go_wp2_with fail
  refine (H5 W7).out.mono ?_
  rintro e W8 ⟨rfl, hb8⟩
  have b8 := b7.trans (hb8.mono b7.size)
  have t1 := t1.below hb8 t1.lt
  have t2 := t2.below hb8 t2.lt
  have t3 := t3.below hb8 t3.lt
  clear hb8 H5 b7 x0 x1
  go_wp2_with fail
  have t4 := Two.new W8 23 (.bool (sg s)) (.string (mg s))
  have t1 := t1.alloc (.cells #[.bool (sg s), .string (mg s)] 23)
  have t2 := t2.alloc (.cells #[.bool (sg s), .string (mg s)] 23)
  have t3 := t3.alloc (.cells #[.bool (sg s), .string (mg s)] 23)
  have b9 := b8.alloc b8.size (.cells #[.bool (sg s), .string (mg s)] 23)
  have c3 := b8.size
  generalize hn3 : W8.heap.size = n3 at t4 b9 c3 ⊢
  generalize World.alloc W8 _ = W9 at t1 t2 t3 t4 b9 ⊢
  clear hn3 b8
  refine region_qb (by kernel_rfl) (by kernel_rfl) ?_
  have HT9 := Lib.hid (HT.out.below b9)
  clear HT
  repeat
    first
    | (refine qb_run (.bool true) (by kernel_rfl) (fun w' hC => ?_) ?_
       focus
         skip
         go_simp
         first | done | with_reducible rfl
       simp only [Act.put, List.setIfInBounds_toArray, List.set_cons_zero, List.set_cons_succ])
    | (refine qb_run ?_ (by kernel_rfl) (fun w' hC => ?_) ?_
       rotate_left 1
       focus
         go_simp
         first | done | with_reducible rfl
       simp only [Act.put, List.setIfInBounds_toArray, List.set_cons_zero, List.set_cons_succ])
    | (refine qb_run (vI q4) (by kernel_rfl) (fun w' hC => ?_) ?_
       focus
         obtain ⟨x0, x1⟩ := (t1.below hC t1.lt).cells
         go_simp
         first | done | with_reducible rfl
       simp only [Act.put, List.setIfInBounds_toArray, List.set_cons_zero, List.set_cons_succ])
    | (refine qb_run (vI one) (by kernel_rfl) (fun w' hC => ?_) ?_
       focus
         obtain ⟨x0, x1⟩ := (t2.below hC t2.lt).cells
         go_simp
         first | done | with_reducible rfl
       simp only [Act.put, List.setIfInBounds_toArray, List.set_cons_zero, List.set_cons_succ])
    | (refine qb_run (vI p) (by kernel_rfl) (fun w' hC => ?_) ?_
       focus
         obtain ⟨x0, x1⟩ := (t3.below hC t3.lt).cells
         go_simp
         first | done | with_reducible rfl
       simp only [Act.put, List.setIfInBounds_toArray, List.set_cons_zero, List.set_cons_succ])
    | (refine qb_run (vI s) (by kernel_rfl) (fun w' hC => ?_) ?_
       focus
         obtain ⟨x0, x1⟩ := (t4.below hC t4.lt).cells
         go_simp
         first | done | with_reducible rfl
       simp only [Act.put, List.setIfInBounds_toArray, List.set_cons_zero, List.set_cons_succ])
    | (refine qb_call (vI q4) 49 #[.int .i64 (-4)] (by kernel_rfl) (fun w' => ?_) (fun w' hC => (H6 w').out.mono (fun e w'' h => ⟨h.1, hC.step h.2⟩)) ?_
       focus
         go_simp
         first | done | with_reducible rfl
       simp only [Act.put, List.setIfInBounds_toArray, List.set_cons_zero, List.set_cons_succ])
    | (refine qb_call (vI one) 49 #[.int .i64 1] (by kernel_rfl) (fun w' => ?_) (fun w' hC => (H7 w').out.mono (fun e w'' h => ⟨h.1, hC.step h.2⟩)) ?_
       focus
         go_simp
         first | done | with_reducible rfl
       simp only [Act.put, List.setIfInBounds_toArray, List.set_cons_zero, List.set_cons_succ])
    | (refine qb_call (.string ⟨#[49, 49, 56, 48, 53, 57, 49, 54, 50, 48, 55, 49, 55, 52, 49, 49, 51, 48, 51, 52, 50, 52]⟩) 65 #[vI p] (by kernel_rfl) (fun w' => ?_) (fun w' hC => (H8 w' (HT9.out.below hC)).out.mono (fun e w'' h => ⟨h.1, hC.step h.2⟩)) ?_
       focus
         go_simp
         first | done | with_reducible rfl
       simp only [Act.put, List.setIfInBounds_toArray, List.set_cons_zero, List.set_cons_succ])
    | (refine qb_call (vI s) 49 #[.int .i64 34359738368] (by kernel_rfl) (fun w' => ?_) (fun w' hC => (H9 w').out.mono (fun e w'' h => ⟨h.1, hC.step h.2⟩)) ?_
       focus
         go_simp
         first | done | with_reducible rfl
       simp only [Act.put, List.setIfInBounds_toArray, List.set_cons_zero, List.set_cons_succ])
    | (refine qb_call (.bool true) 66 #[vI p] (by kernel_rfl) (fun w' => ?_) (fun w' hC => (H10 w').out.mono (fun e w'' h => ⟨h.1, hC.step h.2⟩)) ?_
       focus
         go_simp
         first | done | with_reducible rfl
       simp only [Act.put, List.setIfInBounds_toArray, List.set_cons_zero, List.set_cons_succ])
  refine wpQuiet_nil (fun W10 hC => ?_)
  have b10 := b9.trans (Below.mono hC b9.size)
  go_wp2_with fail
  go_ret
  exact ⟨rfl, b10⟩
end Go.Proofs.YtnejlboohjdfiaaGreatDoor
