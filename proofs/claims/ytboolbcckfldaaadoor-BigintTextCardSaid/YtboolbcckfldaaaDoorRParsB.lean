import Derived.Test.YtboolbcckfldaaaDoorRParse
namespace Go.Proofs.YtboolbcckfldaaaDoor
open Go.RowKit
set_option linter.unusedVariables false
set_option linter.unusedSimpArgs false
set_option maxHeartbeats 4000000 in
set_option maxRecDepth 100000 in
theorem RParse_bad_neg (s : ByteArray) (w : World) (t : ByteArray) (h0s : 0 < s.size) (h45 : (s[0]'h0s).toNat = 45) (ht : t = s.extract 1 s.size) (hts : t.size + 1 = s.size) (hd : ¬ AllD t) (hz : t.size ≤ 1000000000) :
    Calls Tryd.prog 31 #[.string s] w (RetIE 0 4 w) := by
  have HD := Lib.hid hd
  clear hd
  obtain ⟨e1, e2⟩ := str_full h0s
  have hsz : (1 : Int) ≤ s.size := by omega
  go_enter Tryd.func31, Tryd.ntmps31
  go_wp2_with fail
  have t2 := Ob.new (w) 23 #[.bool false, .string ⟨#[]⟩]
  have bl := ((Below.refl w.heap.size w).alloc (Nat.le_refl _) (.cells #[.bool false, .string ⟨#[]⟩] 23))
  try simp only [World.size_alloc] at t2
  generalize World.alloc w _ = W1 at t2 bl ⊢
  rw [← ht]
  clear ht h45 e1 e2
  go_loopw [5] (fun v5 wr => ∃ i : Nat, i ≤ t.size ∧ v5 = .int .i64 i ∧ Hid (∀ j (h : j < t.size), j < i → 48 ≤ t[j].toNat ∧ t[j].toNat ≤ 57) ∧ Ob wr w.heap.size 23 #[.bool false, .string ⟨#[]⟩] ∧ Below w.heap.size w wr) (fun v5 _ => t.size - (intOf v5).toNat)
  case atStart => exact ⟨0, by omega, rfl, Lib.hid (fun j h hj => by omega), t2, bl⟩
  case round =>
    clear t2 bl
    obtain ⟨i, hi, rfl, hI, t2, bl⟩ := hrel
    by_cases hil : i < t.size
    · have fr2 := t2.free
      obtain ⟨z2_0, z2_1⟩ := t2.cells2
      by_cases c1 : t[i].toNat < 48
      · have c1' : ((t[i].toNat : Nat) : Int) < 48 := by omega
        go_wp2_with fail
        clear fr2 z2_0 z2_1
        have t2 := t2.set2 (.bool false) (.string ⟨#[]⟩)
        have bl := (below_set (below_set bl (show w.heap.size ≤ w.heap.size by omega) 0 (.bool false)) (show w.heap.size ≤ w.heap.size by omega) 1 (.string ⟨#[]⟩))
        generalize World.setCell (World.setCell wr _ _) _ _ = W3 at t2 bl ⊢
        obtain ⟨r2_0, r2_1⟩ := t2.cells2
        exact bodyPost_ret (v := .tuple #[.agg #[.bool false, .string ⟨#[]⟩], .int .i64 4]) (by simp [results, Tryd.results31, go_sem, r2_0, r2_1]) rfl (⟨by rw [vI_zero], bl⟩)
      by_cases c2 : 57 < t[i].toNat
      · have c1' : ¬ ((t[i].toNat : Nat) : Int) < 48 := by omega
        have c2' : (57 : Int) < ((t[i].toNat : Nat) : Int) := by omega
        go_wp2_with fail
        clear fr2 z2_0 z2_1
        have t2 := t2.set2 (.bool false) (.string ⟨#[]⟩)
        have bl := (below_set (below_set bl (show w.heap.size ≤ w.heap.size by omega) 0 (.bool false)) (show w.heap.size ≤ w.heap.size by omega) 1 (.string ⟨#[]⟩))
        generalize World.setCell (World.setCell wr _ _) _ _ = W3 at t2 bl ⊢
        obtain ⟨r2_0, r2_1⟩ := t2.cells2
        exact bodyPost_ret (v := .tuple #[.agg #[.bool false, .string ⟨#[]⟩], .int .i64 4]) (by simp [results, Tryd.results31, go_sem, r2_0, r2_1]) rfl (⟨by rw [vI_zero], bl⟩)
      clear fr2 z2_0 z2_1
      have c1' : ¬ ((t[i].toNat : Nat) : Int) < 48 := by omega
      have c2' : ¬ (57 : Int) < ((t[i].toNat : Nat) : Int) := by omega
      go_wp2_with fail
      go_roundw
      case rel => exact ⟨i + 1, by omega, by go_num, Lib.hid (fun j h hj => by
        by_cases hji : j = i
        · subst hji; omega
        · exact hI.out j h (by omega)), t2, bl⟩
      case measure => simp [intOf]; omega
    · obtain rfl : i = t.size := by omega
      exact absurd (fun j h => hI.out j h h) HD.out

set_option maxHeartbeats 4000000 in
set_option maxRecDepth 100000 in
theorem RParse_bad_pos (s : ByteArray) (w : World) (h0 : 0 < s.size) (h45 : ¬ (s[0]'h0).toNat = 45) (hd : ¬ AllD s) (hz : s.size ≤ 1000000000) :
    Calls Tryd.prog 31 #[.string s] w (RetIE 0 4 w) := by
  have HD := Lib.hid hd
  clear hd
  obtain ⟨e1, e2⟩ := str_full h0
  go_enter Tryd.func31, Tryd.ntmps31
  go_wp2_with fail
  have t2 := Ob.new (w) 23 #[.bool false, .string ⟨#[]⟩]
  have bl := ((Below.refl w.heap.size w).alloc (Nat.le_refl _) (.cells #[.bool false, .string ⟨#[]⟩] 23))
  try simp only [World.size_alloc] at t2
  generalize World.alloc w _ = W1 at t2 bl ⊢
  clear h45
  go_loopw [5] (fun v5 wr => ∃ i : Nat, i ≤ s.size ∧ v5 = .int .i64 i ∧ Hid (∀ j (h : j < s.size), j < i → 48 ≤ s[j].toNat ∧ s[j].toNat ≤ 57) ∧ Ob wr w.heap.size 23 #[.bool false, .string ⟨#[]⟩] ∧ Below w.heap.size w wr) (fun v5 _ => s.size - (intOf v5).toNat)
  case atStart => exact ⟨0, by omega, rfl, Lib.hid (fun j h hj => by omega), t2, bl⟩
  case round =>
    clear t2 bl
    obtain ⟨i, hi, rfl, hI, t2, bl⟩ := hrel
    by_cases hil : i < s.size
    · have fr2 := t2.free
      obtain ⟨z2_0, z2_1⟩ := t2.cells2
      by_cases c1 : s[i].toNat < 48
      · have c1' : ((s[i].toNat : Nat) : Int) < 48 := by omega
        go_wp2_with fail
        clear fr2 z2_0 z2_1
        have t2 := t2.set2 (.bool false) (.string ⟨#[]⟩)
        have bl := (below_set (below_set bl (show w.heap.size ≤ w.heap.size by omega) 0 (.bool false)) (show w.heap.size ≤ w.heap.size by omega) 1 (.string ⟨#[]⟩))
        generalize World.setCell (World.setCell wr _ _) _ _ = W3 at t2 bl ⊢
        obtain ⟨r2_0, r2_1⟩ := t2.cells2
        exact bodyPost_ret (v := .tuple #[.agg #[.bool false, .string ⟨#[]⟩], .int .i64 4]) (by simp [results, Tryd.results31, go_sem, r2_0, r2_1]) rfl (⟨by rw [vI_zero], bl⟩)
      by_cases c2 : 57 < s[i].toNat
      · have c1' : ¬ ((s[i].toNat : Nat) : Int) < 48 := by omega
        have c2' : (57 : Int) < ((s[i].toNat : Nat) : Int) := by omega
        go_wp2_with fail
        clear fr2 z2_0 z2_1
        have t2 := t2.set2 (.bool false) (.string ⟨#[]⟩)
        have bl := (below_set (below_set bl (show w.heap.size ≤ w.heap.size by omega) 0 (.bool false)) (show w.heap.size ≤ w.heap.size by omega) 1 (.string ⟨#[]⟩))
        generalize World.setCell (World.setCell wr _ _) _ _ = W3 at t2 bl ⊢
        obtain ⟨r2_0, r2_1⟩ := t2.cells2
        exact bodyPost_ret (v := .tuple #[.agg #[.bool false, .string ⟨#[]⟩], .int .i64 4]) (by simp [results, Tryd.results31, go_sem, r2_0, r2_1]) rfl (⟨by rw [vI_zero], bl⟩)
      clear fr2 z2_0 z2_1
      have c1' : ¬ ((s[i].toNat : Nat) : Int) < 48 := by omega
      have c2' : ¬ (57 : Int) < ((s[i].toNat : Nat) : Int) := by omega
      go_wp2_with fail
      go_roundw
      case rel => exact ⟨i + 1, by omega, by go_num, Lib.hid (fun j h hj => by
        by_cases hji : j = i
        · subst hji; omega
        · exact hI.out j h (by omega)), t2, bl⟩
      case measure => simp [intOf]; omega
    · obtain rfl : i = s.size := by omega
      exact absurd (fun j h => hI.out j h h) HD.out

set_option maxHeartbeats 4000000 in
set_option maxRecDepth 100000 in
theorem RParse_none_neg (s : ByteArray) (w : World) (t : ByteArray) (h0s : 0 < s.size) (h45 : (s[0]'h0s).toNat = 45) (ht : t = s.extract 1 s.size) (hts : t.size + 1 = s.size) (hd : AllD t) (h0 : t.size = 0) :
    Calls Tryd.prog 31 #[.string s] w (RetIE 0 4 w) := by
  have HD := Lib.hid hd
  clear hd
  obtain ⟨e1, e2⟩ := str_full h0s
  have hsz : (1 : Int) ≤ s.size := by omega
  go_enter Tryd.func31, Tryd.ntmps31
  go_wp2_with fail
  have t2 := Ob.new (w) 23 #[.bool false, .string ⟨#[]⟩]
  have bl := ((Below.refl w.heap.size w).alloc (Nat.le_refl _) (.cells #[.bool false, .string ⟨#[]⟩] 23))
  try simp only [World.size_alloc] at t2
  generalize World.alloc w _ = W1 at t2 bl ⊢
  rw [← ht]
  clear ht h45 e1 e2
  go_loopw [5] (fun v5 wr => ∃ i : Nat, i ≤ t.size ∧ v5 = .int .i64 i ∧ True ∧ Ob wr w.heap.size 23 #[.bool false, .string ⟨#[]⟩] ∧ Below w.heap.size w wr) (fun v5 _ => t.size - (intOf v5).toNat)
  case atStart => exact ⟨0, by omega, rfl, trivial, t2, bl⟩
  case round =>
    clear t2 bl
    obtain ⟨i, hi, rfl, hI, t2, bl⟩ := hrel
    by_cases hil : i < t.size
    · exact absurd hil (by omega)
    · obtain rfl : i = t.size := by omega
      obtain ⟨e1, e2⟩ := str_empty h0
      have fr2 := t2.free
      obtain ⟨z2_0, z2_1⟩ := t2.cells2
      go_wp2_with fail
      clear fr2 z2_0 z2_1
      have t2 := t2.set2 (.bool false) (.string ⟨#[]⟩)
      have bl := (below_set (below_set bl (show w.heap.size ≤ w.heap.size by omega) 0 (.bool false)) (show w.heap.size ≤ w.heap.size by omega) 1 (.string ⟨#[]⟩))
      generalize World.setCell (World.setCell wr _ _) _ _ = W3 at t2 bl ⊢
      obtain ⟨r2_0, r2_1⟩ := t2.cells2
      exact bodyPost_ret (v := .tuple #[.agg #[.bool false, .string ⟨#[]⟩], .int .i64 4]) (by simp [results, Tryd.results31, go_sem, r2_0, r2_1]) rfl (⟨by rw [vI_zero], bl⟩)

set_option maxHeartbeats 4000000 in
set_option maxRecDepth 100000 in
theorem RParse_none_pos (s : ByteArray) (w : World) (h0 : s.size = 0) (hd : AllD s) :
    Calls Tryd.prog 31 #[.string s] w (RetIE 0 4 w) := by
  have HD := Lib.hid hd
  clear hd
  obtain ⟨e1, e2⟩ := str_empty h0
  go_enter Tryd.func31, Tryd.ntmps31
  go_wp2_with fail
  have t2 := Ob.new (w) 23 #[.bool false, .string ⟨#[]⟩]
  have bl := ((Below.refl w.heap.size w).alloc (Nat.le_refl _) (.cells #[.bool false, .string ⟨#[]⟩] 23))
  try simp only [World.size_alloc] at t2
  generalize World.alloc w _ = W1 at t2 bl ⊢
  go_loopw [5] (fun v5 wr => ∃ i : Nat, i ≤ s.size ∧ v5 = .int .i64 i ∧ True ∧ Ob wr w.heap.size 23 #[.bool false, .string ⟨#[]⟩] ∧ Below w.heap.size w wr) (fun v5 _ => s.size - (intOf v5).toNat)
  case atStart => exact ⟨0, by omega, rfl, trivial, t2, bl⟩
  case round =>
    clear t2 bl
    obtain ⟨i, hi, rfl, hI, t2, bl⟩ := hrel
    by_cases hil : i < s.size
    · exact absurd hil (by omega)
    · obtain rfl : i = s.size := by omega
      have fr2 := t2.free
      obtain ⟨z2_0, z2_1⟩ := t2.cells2
      go_wp2_with fail
      clear fr2 z2_0 z2_1
      have t2 := t2.set2 (.bool false) (.string ⟨#[]⟩)
      have bl := (below_set (below_set bl (show w.heap.size ≤ w.heap.size by omega) 0 (.bool false)) (show w.heap.size ≤ w.heap.size by omega) 1 (.string ⟨#[]⟩))
      generalize World.setCell (World.setCell wr _ _) _ _ = W3 at t2 bl ⊢
      obtain ⟨r2_0, r2_1⟩ := t2.cells2
      exact bodyPost_ret (v := .tuple #[.agg #[.bool false, .string ⟨#[]⟩], .int .i64 4]) (by simp [results, Tryd.results31, go_sem, r2_0, r2_1]) rfl (⟨by rw [vI_zero], bl⟩)

set_option maxHeartbeats 4000000 in
set_option maxRecDepth 100000 in
theorem RParse_zero_neg (s : ByteArray) (w : World) (t : ByteArray) (h0s : 0 < s.size) (h45 : (s[0]'h0s).toNat = 45) (ht : t = s.extract 1 s.size) (hts : t.size + 1 = s.size) (hd : AllD t) (hz : t.size ≤ 1000000000) (h0 : 0 < t.size) (h48 : (t[0]'h0).toNat = 48) :
    Calls Tryd.prog 31 #[.string s] w (RetIE 0 4 w) := by
  have HD := Lib.hid hd
  clear hd
  obtain ⟨e1, e2⟩ := str_full h0s
  have hsz : (1 : Int) ≤ s.size := by omega
  go_enter Tryd.func31, Tryd.ntmps31
  go_wp2_with fail
  have t2 := Ob.new (w) 23 #[.bool false, .string ⟨#[]⟩]
  have bl := ((Below.refl w.heap.size w).alloc (Nat.le_refl _) (.cells #[.bool false, .string ⟨#[]⟩] 23))
  try simp only [World.size_alloc] at t2
  generalize World.alloc w _ = W1 at t2 bl ⊢
  rw [← ht]
  clear ht h45 e1 e2
  go_loopw [5] (fun v5 wr => ∃ i : Nat, i ≤ t.size ∧ v5 = .int .i64 i ∧ True ∧ Ob wr w.heap.size 23 #[.bool false, .string ⟨#[]⟩] ∧ Below w.heap.size w wr) (fun v5 _ => t.size - (intOf v5).toNat)
  case atStart => exact ⟨0, by omega, rfl, trivial, t2, bl⟩
  case round =>
    clear t2 bl
    obtain ⟨i, hi, rfl, hI, t2, bl⟩ := hrel
    by_cases hil : i < t.size
    · obtain ⟨c1, c2⟩ := HD.out i hil
      have c1' : ¬ ((t[i].toNat : Nat) : Int) < 48 := by omega
      have c2' : ¬ (57 : Int) < ((t[i].toNat : Nat) : Int) := by omega
      go_wp2_with fail
      go_roundw
      case rel => exact ⟨i + 1, by omega, by go_num, trivial, t2, bl⟩
      case measure => simp [intOf]; omega
    · obtain rfl : i = t.size := by omega
      obtain ⟨e1, e2⟩ := str_full h0
      have z1 : ¬ s.toList = [48] := by
        rw [ByteArray.toList_eq]
        intro h
        have := congrArg List.length h
        rw [size_toList, List.length_singleton] at this
        omega
      have z2 : (s.toList == [48]) = false := by simpa using z1
      have fr2 := t2.free
      obtain ⟨z2_0, z2_1⟩ := t2.cells2
      go_wp2_with fail
      clear fr2 z2_0 z2_1
      have t2 := t2.set2 (.bool false) (.string ⟨#[]⟩)
      have bl := (below_set (below_set bl (show w.heap.size ≤ w.heap.size by omega) 0 (.bool false)) (show w.heap.size ≤ w.heap.size by omega) 1 (.string ⟨#[]⟩))
      generalize World.setCell (World.setCell wr _ _) _ _ = W3 at t2 bl ⊢
      obtain ⟨r2_0, r2_1⟩ := t2.cells2
      exact bodyPost_ret (v := .tuple #[.agg #[.bool false, .string ⟨#[]⟩], .int .i64 4]) (by simp [results, Tryd.results31, go_sem, r2_0, r2_1]) rfl (⟨by rw [vI_zero], bl⟩)

set_option maxHeartbeats 4000000 in
set_option maxRecDepth 100000 in
theorem RParse_zero_pos (s : ByteArray) (w : World) (h0 : 0 < s.size) (h45 : ¬ (s[0]'h0).toNat = 45) (hd : AllD s) (hz : s.size ≤ 1000000000) (h1 : 1 < s.size) (h48 : (s[0]'h0).toNat = 48) :
    Calls Tryd.prog 31 #[.string s] w (RetIE 0 4 w) := by
  have HD := Lib.hid hd
  clear hd
  obtain ⟨e1, e2⟩ := str_full h0
  go_enter Tryd.func31, Tryd.ntmps31
  go_wp2_with fail
  have t2 := Ob.new (w) 23 #[.bool false, .string ⟨#[]⟩]
  have bl := ((Below.refl w.heap.size w).alloc (Nat.le_refl _) (.cells #[.bool false, .string ⟨#[]⟩] 23))
  try simp only [World.size_alloc] at t2
  generalize World.alloc w _ = W1 at t2 bl ⊢
  clear h45
  go_loopw [5] (fun v5 wr => ∃ i : Nat, i ≤ s.size ∧ v5 = .int .i64 i ∧ True ∧ Ob wr w.heap.size 23 #[.bool false, .string ⟨#[]⟩] ∧ Below w.heap.size w wr) (fun v5 _ => s.size - (intOf v5).toNat)
  case atStart => exact ⟨0, by omega, rfl, trivial, t2, bl⟩
  case round =>
    clear t2 bl
    obtain ⟨i, hi, rfl, hI, t2, bl⟩ := hrel
    by_cases hil : i < s.size
    · obtain ⟨c1, c2⟩ := HD.out i hil
      have c1' : ¬ ((s[i].toNat : Nat) : Int) < 48 := by omega
      have c2' : ¬ (57 : Int) < ((s[i].toNat : Nat) : Int) := by omega
      go_wp2_with fail
      go_roundw
      case rel => exact ⟨i + 1, by omega, by go_num, trivial, t2, bl⟩
      case measure => simp [intOf]; omega
    · obtain rfl : i = s.size := by omega
      have z1 : ¬ s.toList = [48] := by
        rw [ByteArray.toList_eq]
        intro h
        have := congrArg List.length h
        rw [size_toList, List.length_singleton] at this
        omega
      have z2 : (s.toList == [48]) = false := by simpa using z1
      have fr2 := t2.free
      obtain ⟨z2_0, z2_1⟩ := t2.cells2
      go_wp2_with fail
      clear fr2 z2_0 z2_1
      have t2 := t2.set2 (.bool false) (.string ⟨#[]⟩)
      have bl := (below_set (below_set bl (show w.heap.size ≤ w.heap.size by omega) 0 (.bool false)) (show w.heap.size ≤ w.heap.size by omega) 1 (.string ⟨#[]⟩))
      generalize World.setCell (World.setCell wr _ _) _ _ = W3 at t2 bl ⊢
      obtain ⟨r2_0, r2_1⟩ := t2.cells2
      exact bodyPost_ret (v := .tuple #[.agg #[.bool false, .string ⟨#[]⟩], .int .i64 4]) (by simp [results, Tryd.results31, go_sem, r2_0, r2_1]) rfl (⟨by rw [vI_zero], bl⟩)

set_option maxHeartbeats 4000000 in
set_option maxRecDepth 100000 in
theorem RParse_long_neg (s : ByteArray) (w : World) (t : ByteArray) (h0s : 0 < s.size) (h45 : (s[0]'h0s).toNat = 45) (ht : t = s.extract 1 s.size) (hts : t.size + 1 = s.size) (hd : AllD t) (hz : t.size ≤ 1000000000) (h0 : 0 < t.size) (h48 : ¬ (t[0]'h0).toNat = 48) (hl : 400 < t.size) :
    Calls Tryd.prog 31 #[.string s] w (RetIE 0 3 w) := by
  have HD := Lib.hid hd
  clear hd
  obtain ⟨e1, e2⟩ := str_full h0s
  have hsz : (1 : Int) ≤ s.size := by omega
  go_enter Tryd.func31, Tryd.ntmps31
  go_wp2_with fail
  have t2 := Ob.new (w) 23 #[.bool false, .string ⟨#[]⟩]
  have bl := ((Below.refl w.heap.size w).alloc (Nat.le_refl _) (.cells #[.bool false, .string ⟨#[]⟩] 23))
  try simp only [World.size_alloc] at t2
  generalize World.alloc w _ = W1 at t2 bl ⊢
  rw [← ht]
  clear ht h45 e1 e2
  go_loopw [5] (fun v5 wr => ∃ i : Nat, i ≤ t.size ∧ v5 = .int .i64 i ∧ True ∧ Ob wr w.heap.size 23 #[.bool false, .string ⟨#[]⟩] ∧ Below w.heap.size w wr) (fun v5 _ => t.size - (intOf v5).toNat)
  case atStart => exact ⟨0, by omega, rfl, trivial, t2, bl⟩
  case round =>
    clear t2 bl
    obtain ⟨i, hi, rfl, hI, t2, bl⟩ := hrel
    by_cases hil : i < t.size
    · obtain ⟨c1, c2⟩ := HD.out i hil
      have c1' : ¬ ((t[i].toNat : Nat) : Int) < 48 := by omega
      have c2' : ¬ (57 : Int) < ((t[i].toNat : Nat) : Int) := by omega
      go_wp2_with fail
      go_roundw
      case rel => exact ⟨i + 1, by omega, by go_num, trivial, t2, bl⟩
      case measure => simp [intOf]; omega
    · obtain rfl : i = t.size := by omega
      obtain ⟨e1, e2⟩ := str_full h0
      have hl' : (400 : Int) < t.size := by omega
      have fr2 := t2.free
      obtain ⟨z2_0, z2_1⟩ := t2.cells2
      go_wp2_with fail
      clear fr2 z2_0 z2_1
      have t2 := t2.set2 (.bool false) (.string ⟨#[]⟩)
      have bl := (below_set (below_set bl (show w.heap.size ≤ w.heap.size by omega) 0 (.bool false)) (show w.heap.size ≤ w.heap.size by omega) 1 (.string ⟨#[]⟩))
      generalize World.setCell (World.setCell wr _ _) _ _ = W3 at t2 bl ⊢
      obtain ⟨r2_0, r2_1⟩ := t2.cells2
      exact bodyPost_ret (v := .tuple #[.agg #[.bool false, .string ⟨#[]⟩], .int .i64 3]) (by simp [results, Tryd.results31, go_sem, r2_0, r2_1]) rfl (⟨by rw [vI_zero], bl⟩)

set_option maxHeartbeats 4000000 in
set_option maxRecDepth 100000 in
theorem RParse_long_pos (s : ByteArray) (w : World) (h0 : 0 < s.size) (h45 : ¬ (s[0]'h0).toNat = 45) (hd : AllD s) (hz : s.size ≤ 1000000000) (h48 : ¬ (s[0]'h0).toNat = 48) (hl : 400 < s.size) :
    Calls Tryd.prog 31 #[.string s] w (RetIE 0 3 w) := by
  have HD := Lib.hid hd
  clear hd
  obtain ⟨e1, e2⟩ := str_full h0
  go_enter Tryd.func31, Tryd.ntmps31
  go_wp2_with fail
  have t2 := Ob.new (w) 23 #[.bool false, .string ⟨#[]⟩]
  have bl := ((Below.refl w.heap.size w).alloc (Nat.le_refl _) (.cells #[.bool false, .string ⟨#[]⟩] 23))
  try simp only [World.size_alloc] at t2
  generalize World.alloc w _ = W1 at t2 bl ⊢
  clear h45
  go_loopw [5] (fun v5 wr => ∃ i : Nat, i ≤ s.size ∧ v5 = .int .i64 i ∧ True ∧ Ob wr w.heap.size 23 #[.bool false, .string ⟨#[]⟩] ∧ Below w.heap.size w wr) (fun v5 _ => s.size - (intOf v5).toNat)
  case atStart => exact ⟨0, by omega, rfl, trivial, t2, bl⟩
  case round =>
    clear t2 bl
    obtain ⟨i, hi, rfl, hI, t2, bl⟩ := hrel
    by_cases hil : i < s.size
    · obtain ⟨c1, c2⟩ := HD.out i hil
      have c1' : ¬ ((s[i].toNat : Nat) : Int) < 48 := by omega
      have c2' : ¬ (57 : Int) < ((s[i].toNat : Nat) : Int) := by omega
      go_wp2_with fail
      go_roundw
      case rel => exact ⟨i + 1, by omega, by go_num, trivial, t2, bl⟩
      case measure => simp [intOf]; omega
    · obtain rfl : i = s.size := by omega
      have hl' : (400 : Int) < s.size := by omega
      have fr2 := t2.free
      obtain ⟨z2_0, z2_1⟩ := t2.cells2
      go_wp2_with fail
      clear fr2 z2_0 z2_1
      have t2 := t2.set2 (.bool false) (.string ⟨#[]⟩)
      have bl := (below_set (below_set bl (show w.heap.size ≤ w.heap.size by omega) 0 (.bool false)) (show w.heap.size ≤ w.heap.size by omega) 1 (.string ⟨#[]⟩))
      generalize World.setCell (World.setCell wr _ _) _ _ = W3 at t2 bl ⊢
      obtain ⟨r2_0, r2_1⟩ := t2.cells2
      exact bodyPost_ret (v := .tuple #[.agg #[.bool false, .string ⟨#[]⟩], .int .i64 3]) (by simp [results, Tryd.results31, go_sem, r2_0, r2_1]) rfl (⟨by rw [vI_zero], bl⟩)

/-- the sign and the digits of a text -/
def cutN (s : ByteArray) : Bool := Lib.hasPrefix s.data.toList [45]
def cutT (s : ByteArray) : ByteArray := ⟨(Lib.trimPrefix s.data.toList [45]).toArray⟩
theorem ba_ext {s t : ByteArray} (h : s.data.toList = t.data.toList) : s = t := by
  cases s; cases t; congr 1; exact Array.ext' h
theorem one_byte (s : ByteArray) (h0 : 0 < s.size) (h1 : s.size ≤ 1) (h48 : (s[0]'h0).toNat = 48) : s = ⟨#[48]⟩ := by
  obtain ⟨⟨l⟩⟩ := s
  match l, h0, h1, h48 with
  | [], h0, _, _ => exact absurd h0 (by decide)
  | [c], _, _, h48 =>
    have : c = 48 := UInt8.toNat_inj.1 h48
    rw [this]
  | a :: b :: l, _, h1, _ => simp [ByteArray.size] at h1
theorem cut_cases (s : ByteArray) : (cutN s = true ∧ cutT s = s.extract 1 s.size ∧ (cutT s).size + 1 = s.size ∧ ∃ h : 0 < s.size, (s[0]'h).toNat = 45) ∨ (cutN s = false ∧ cutT s = s ∧ ∀ h : 0 < s.size, ¬ (s[0]'h).toNat = 45) := by
  obtain ⟨⟨l⟩⟩ := s
  cases l with
  | nil => right; refine ⟨by decide, ba_ext (by rfl), fun h => absurd h (by decide)⟩
  | cons c l =>
    by_cases hc : c = 45
    · subst hc
      left
      have h1 : cutN ⟨⟨45 :: l⟩⟩ = true := by simp [cutN, Lib.hasPrefix, List.isPrefixOf]
      have h2 : Lib.trimPrefix (45 :: l) [45] = l := by
        have h1' : Lib.hasPrefix (45 :: l) [45] = true := h1
        unfold Lib.trimPrefix; rw [h1']; rfl
      have h3 : cutT ⟨⟨45 :: l⟩⟩ = ⟨⟨l⟩⟩ := ba_ext (by simp [cutT, h2])
      refine ⟨h1, ?_, ?_, by simp [ByteArray.size], rfl⟩
      · rw [h3]; apply ba_ext; simp [ByteArray.size]
      · rw [h3]; simp [ByteArray.size]
    · right
      have h1 : Lib.hasPrefix (c :: l) [45] = false := by simp [Lib.hasPrefix, List.isPrefixOf]; exact fun e => hc e.symm
      refine ⟨h1, ba_ext (by simp [cutT, Lib.trimPrefix, h1]), fun h e => hc ?_⟩
      exact UInt8.toNat_inj.1 e

theorem RParse_any (s : ByteArray) (w : World) (hsz : s.size ≤ 1000000000) : Calls Tryd.prog 31 #[.string s] w (RetIE (parseN (cutT s) (cutN s) (parseE (cutT s) (cutN s))) (parseE (cutT s) (cutN s)) w) := by
  rcases cut_cases s with ⟨hn, ht, hts, h0s, h45⟩ | ⟨hn, ht, h45⟩
  · rw [hn]
    generalize cutT s = t at *
    by_cases hd : AllD t
    · by_cases h0 : 0 < t.size
      · by_cases h48 : t[0].toNat = 48
        · have e : parseE t true = 4 := by unfold parseE; rw [if_neg (by intro h; have h1 := h.1; unfold shapeB at h1; rw [dif_pos h0] at h1; simp [h48] at h1)]
          rw [e, parseN, if_neg (by decide)]
          exact RParse_zero_neg s w t h0s h45 ht hts hd (by omega) h0 h48
        · have hs : shapeB true t = true := by unfold shapeB; rw [dif_pos h0]; simp [h48]
          by_cases hl : t.size ≤ 400
          · have e : parseE t true = 0 := by unfold parseE; rw [if_pos ⟨hs, hd⟩, if_pos hl]
            rw [e, parseN, if_pos rfl]
            exact RParse_neg s w t h0s h45 ht hts h0 h48 hd hl
          · have e : parseE t true = 3 := by unfold parseE; rw [if_pos ⟨hs, hd⟩, if_neg hl]
            rw [e, parseN, if_neg (by decide)]
            exact RParse_long_neg s w t h0s h45 ht hts hd (by omega) h0 h48 (by omega)
      · have e : parseE t true = 4 := by unfold parseE; rw [if_neg (by intro h; have h1 := h.1; unfold shapeB at h1; rw [dif_neg h0] at h1; cases h1)]
        rw [e, parseN, if_neg (by decide)]
        exact RParse_none_neg s w t h0s h45 ht hts hd (by omega)
    · have e : parseE t true = 4 := by unfold parseE; rw [if_neg (fun h => hd h.2)]
      rw [e, parseN, if_neg (by decide)]
      exact RParse_bad_neg s w t h0s h45 ht hts hd (by omega)
  · rw [hn, ht]
    by_cases h0 : 0 < s.size
    · have h45' := h45 h0
      by_cases hd : AllD s
      · by_cases h48 : (s[0]'h0).toNat = 48
        · by_cases h1 : 1 < s.size
          · have e : parseE s false = 4 := by unfold parseE; rw [if_neg (by intro h; have h2 := h.1; unfold shapeB at h2; rw [dif_pos h0] at h2; simp [h48, h1] at h2)]
            rw [e, parseN, if_neg (by decide)]
            exact RParse_zero_pos s w h0 h45' hd hsz h1 h48
          · have hs : shapeB false s = true := by unfold shapeB; rw [dif_pos h0]; simp [h1]
            have e : parseE s false = 0 := by unfold parseE; rw [if_pos ⟨hs, hd⟩, if_pos (by omega)]
            rw [e, parseN, if_pos rfl]
            exact RParse_zer s w h0 h45' h48 (one_byte s (by omega) (by omega) h48) hd (by omega)
        · have hs : shapeB false s = true := by unfold shapeB; rw [dif_pos h0]; simp [h48]
          by_cases hl : s.size ≤ 400
          · have e : parseE s false = 0 := by unfold parseE; rw [if_pos ⟨hs, hd⟩, if_pos hl]
            rw [e, parseN, if_pos rfl]
            exact RParse_pos s w h0 h45' h48 hd hl
          · have e : parseE s false = 3 := by unfold parseE; rw [if_pos ⟨hs, hd⟩, if_neg hl]
            rw [e, parseN, if_neg (by decide)]
            exact RParse_long_pos s w h0 h45' hd hsz h48 (by omega)
      · have e : parseE s false = 4 := by unfold parseE; rw [if_neg (fun h => hd h.2)]
        rw [e, parseN, if_neg (by decide)]
        exact RParse_bad_pos s w h0 h45' hd hsz
    · have e : parseE s false = 4 := by unfold parseE; rw [if_neg (by intro h; have h1 := h.1; unfold shapeB at h1; rw [dif_neg h0] at h1; cases h1)]
      rw [e, parseN, if_neg (by decide)]
      exact RParse_none_pos s w (by omega) (fun j hj => absurd hj (by omega))

theorem Parse_cut (s : ByteArray) (w : World) (hsz : s.size ≤ 1000000000) : Calls Tryd.prog 30 #[.string s] w (RetIE (parseN (cutT s) (cutN s) (parseE (cutT s) (cutN s))) (parseE (cutT s) (cutN s)) w) := by
  refine Parse_any s (cutT s) (cutN s) w ?_ (fun W => (Tryd.strings_CutPrefix s ⟨#[45]⟩ W).mono ?_)
  · rcases cut_cases s with ⟨_, _, hts, _⟩ | ⟨_, ht, _⟩
    · omega
    · rw [ht]; exact hsz
  · rintro e w' ⟨rfl, rfl⟩
    exact ⟨rfl, Below.refl _ _⟩
end Go.Proofs.YtboolbcckfldaaaDoor
