import Derived.Test.YtboolbcckfldaaaDoorRefL
import Derived.Test.YtboolbcckfldaaaDoorRegT
namespace Go.Proofs.YtboolbcckfldaaaDoor
open Go.RowKit
set_option linter.unusedVariables false
set_option linter.unusedSimpArgs false


def digAt (t : ByteArray) (i : Nat) : Nat := if h : i < t.size then t[i].toNat - 48 else 0
def numAt (t : ByteArray) : Nat → Nat
  | 0 => 0
  | i + 1 => numAt t i * 10 + digAt t i
theorem numAt_lt (t : ByteArray) (i : Nat) (h : ∀ j, j < i → digAt t j ≤ 9) : numAt t i < 10 ^ i := by
  induction i with
  | zero => exact (by decide : 0 < 10 ^ 0)
  | succ i ih =>
    have h1 := ih (fun j hj => h j (by omega))
    have h2 := h i (by omega)
    rw [Nat.pow_succ]
    unfold numAt
    omega
theorem numAt_len (M : Nat) (hM : 10 ≤ M) (t : ByteArray) (i : Nat) (h : ∀ j, j < i → digAt t j ≤ 9) : (digs M (numAt t i)).length ≤ i :=
  digs_length_le (by omega) (Nat.lt_of_lt_of_le (numAt_lt t i h) (Nat.pow_le_pow_left hM i))
theorem digs_ten {M : Nat} (hM : 11 ≤ M) : digs M 10 = [10] := digs_one (by omega) (by decide) (by omega)
theorem trimL_dig {M d : Nat} (hM : 10 ≤ M) (hd : d ≤ 9) : trimL [d] = digs M d := by
  by_cases h : d = 0
  · subst h; rw [digs_zero]; rfl
  · rw [digs_one (by omega) h (by omega)]
    exact trimL_snoc_pos [] d h
theorem rd_cell {w : World} {k : IntKind} {t : TypeId} {b d : Nat} (h : Ob w b t #[.int k (d : Nat)]) : RdAt w k (some ⟨b, 0, none⟩) [d] := fun i hi => by
  have : i = 0 := by simpa using hi
  subst this
  exact ⟨b, 0, rfl, h.cells1⟩

/-- what the shape of the digits allows -/
def shapeB (neg : Bool) (t : ByteArray) : Bool := if h : 0 < t.size then !(decide (t[0].toNat = 48) && (decide (1 < t.size) || neg)) else false

set_option maxHeartbeats 1000000 in
set_option maxRecDepth 100000 in
theorem Parse_syn (s t : ByteArray) (neg : Bool) (w : World) (h : shapeB neg t = false)
    (HC : ∀ W, Calls Tryd.prog 58 #[.string s, .string ⟨#[45]⟩] W (fun e w' => e = .returned (.tuple #[.string t, .bool neg]) ∧ Below W.heap.size W w')) :
    Calls Tryd.prog 30 #[.string s] w (RetIE 0 4 w) := by
  replace HC := fun W => Lib.hid (HC W)
  unfold shapeB at h
  by_cases h0 : 0 < t.size
  · obtain ⟨e1, e2⟩ := str_full h0
    rw [dif_pos h0] at h
    simp only [Bool.not_eq_false', Bool.and_eq_true, decide_eq_true_eq, Bool.or_eq_true] at h
    obtain ⟨h48, h1⟩ := h
    by_cases hs : 1 < t.size
    · have hs' : (1 : Int) < t.size := by omega
      clear h1
      go_enter Tryd.func30, Tryd.ntmps30
      go_wp2_with fail
      have t2 := Ob.new (w) 23 #[.bool false, .string ⟨#[]⟩]
      have bl := ((Below.refl w.heap.size w).alloc (Nat.le_refl _) (.cells #[.bool false, .string ⟨#[]⟩] 23))
      try simp only [World.size_alloc] at t2
      generalize World.alloc w _ = W1 at t2 bl ⊢
      refine ((HC W1).out).mono ?_
      rintro e W2 ⟨rfl, hb⟩
      have t2 := t2.below hb t2.lt
      have bl := bl.trans (Below.mono hb bl.size)
      clear hb
      try simp only [ptr, Act.put, List.setIfInBounds_toArray, List.set_cons_zero, List.set_cons_succ]
      have fr2 := t2.free
      obtain ⟨z2_0, z2_1⟩ := t2.cells2
      go_wp2_with fail
      clear fr2 z2_0 z2_1
      have t2 := t2.set2 (.bool false) (.string ⟨#[]⟩)
      have bl := (below_set (below_set bl (show w.heap.size ≤ w.heap.size by omega) 0 (.bool false)) (show w.heap.size ≤ w.heap.size by omega) 1 (.string ⟨#[]⟩))
      generalize World.setCell (World.setCell W2 _ _) _ _ = W3 at t2 bl ⊢
      obtain ⟨r2_0, r2_1⟩ := t2.cells2
      exact bodyPost_ret (v := .tuple #[.agg #[.bool false, .string ⟨#[]⟩], .int .i64 4]) (by simp [results, Tryd.results30, go_sem, r2_0, r2_1]) rfl (⟨by rw [vI_zero], bl⟩)
    · have hs' : ¬ (1 : Int) < t.size := by omega
      obtain rfl : neg = true := by
        rcases h1 with h | h
        · exact absurd h hs
        · exact h
      go_enter Tryd.func30, Tryd.ntmps30
      go_wp2_with fail
      have t2 := Ob.new (w) 23 #[.bool false, .string ⟨#[]⟩]
      have bl := ((Below.refl w.heap.size w).alloc (Nat.le_refl _) (.cells #[.bool false, .string ⟨#[]⟩] 23))
      try simp only [World.size_alloc] at t2
      generalize World.alloc w _ = W1 at t2 bl ⊢
      refine ((HC W1).out).mono ?_
      rintro e W2 ⟨rfl, hb⟩
      have t2 := t2.below hb t2.lt
      have bl := bl.trans (Below.mono hb bl.size)
      clear hb
      try simp only [ptr, Act.put, List.setIfInBounds_toArray, List.set_cons_zero, List.set_cons_succ]
      have fr2 := t2.free
      obtain ⟨z2_0, z2_1⟩ := t2.cells2
      go_wp2_with fail
      clear fr2 z2_0 z2_1
      have t2 := t2.set2 (.bool false) (.string ⟨#[]⟩)
      have bl := (below_set (below_set bl (show w.heap.size ≤ w.heap.size by omega) 0 (.bool false)) (show w.heap.size ≤ w.heap.size by omega) 1 (.string ⟨#[]⟩))
      generalize World.setCell (World.setCell W2 _ _) _ _ = W3 at t2 bl ⊢
      obtain ⟨r2_0, r2_1⟩ := t2.cells2
      exact bodyPost_ret (v := .tuple #[.agg #[.bool false, .string ⟨#[]⟩], .int .i64 4]) (by simp [results, Tryd.results30, go_sem, r2_0, r2_1]) rfl (⟨by rw [vI_zero], bl⟩)
  · obtain ⟨e1, e2⟩ := str_empty (s := t) (by omega)
    go_enter Tryd.func30, Tryd.ntmps30
    go_wp2_with fail
    have t2 := Ob.new (w) 23 #[.bool false, .string ⟨#[]⟩]
    have bl := ((Below.refl w.heap.size w).alloc (Nat.le_refl _) (.cells #[.bool false, .string ⟨#[]⟩] 23))
    try simp only [World.size_alloc] at t2
    generalize World.alloc w _ = W1 at t2 bl ⊢
    refine ((HC W1).out).mono ?_
    rintro e W2 ⟨rfl, hb⟩
    have t2 := t2.below hb t2.lt
    have bl := bl.trans (Below.mono hb bl.size)
    clear hb
    try simp only [ptr, Act.put, List.setIfInBounds_toArray, List.set_cons_zero, List.set_cons_succ]
    have fr2 := t2.free
    obtain ⟨z2_0, z2_1⟩ := t2.cells2
    go_wp2_with fail
    clear fr2 z2_0 z2_1
    have t2 := t2.set2 (.bool false) (.string ⟨#[]⟩)
    have bl := (below_set (below_set bl (show w.heap.size ≤ w.heap.size by omega) 0 (.bool false)) (show w.heap.size ≤ w.heap.size by omega) 1 (.string ⟨#[]⟩))
    generalize World.setCell (World.setCell W2 _ _) _ _ = W3 at t2 bl ⊢
    obtain ⟨r2_0, r2_1⟩ := t2.cells2
    exact bodyPost_ret (v := .tuple #[.agg #[.bool false, .string ⟨#[]⟩], .int .i64 4]) (by simp [results, Tryd.results30, go_sem, r2_0, r2_1]) rfl (⟨by rw [vI_zero], bl⟩)

/-- all digits are digits -/
def AllD (t : ByteArray) : Prop := ∀ i (h : i < t.size), 48 ≤ t[i].toNat ∧ t[i].toNat ≤ 57
theorem AllD.dig {t : ByteArray} (h : AllD t) (j : Nat) : digAt t j ≤ 9 := by
  unfold digAt
  by_cases hj : j < t.size
  · rw [dif_pos hj]; have := h j hj; omega
  · rw [dif_neg hj]; omega

theorem P_len (t : ByteArray) (i : Nat) (hi : i ≤ 400) (hd : ∀ j, j < i → digAt t j ≤ 9) : (digs 4294967296 (numAt t i * 10)).length ≤ 401 := by
  have h := digs_length_le (B := 4294967296) (k := i + 1) (n := numAt t i * 10) (by decide) (Nat.lt_of_lt_of_le (by
    have h1 := numAt_lt t i hd
    rw [Nat.pow_succ]
    omega) (Nat.pow_le_pow_left (show 10 ≤ 4294967296 by decide) (i + 1)))
  omega
theorem P_mul (A : Option Addr) (c b n : Nat) (W : World) (h1 : RdAt W .u32 A (digs 4294967296 n)) (h2 : RdAt W .u32 (some ⟨b, 0, none⟩) [10]) (hl : (digs 4294967296 n).length ≤ 400) :
    Calls Tryd.prog 43 #[.slice A (digs 4294967296 n).length c, .slice (some ⟨b, 0, none⟩) 1 1] W (RetD .u32 4294967296 (n * 10) W) := by
  have e := digs_ten (M := 4294967296) (by decide)
  have h := mul_any A (some ⟨b, 0, none⟩) c 1 n 10 W h1 (by rw [e]; exact h2) (by omega) (by rw [e]; decide)
  rw [e] at h
  exact h
theorem P_trim (b dv : Nat) (W : World) (hd9 : dv ≤ 9) (h1 : RdAt W .u32 (some ⟨b, 0, none⟩) [dv]) :
    Calls Tryd.prog 59 #[.slice (some ⟨b, 0, none⟩) 1 1] W (fun e w' => e = .returned (.slice (some ⟨b, 0, none⟩) (digs 4294967296 dv).length 1) ∧ Below W.heap.size W w') :=
  (trim_any (some ⟨b, 0, none⟩) 1 1 [dv] W (Lib.hid rfl) (Lib.hid h1) (by omega) (by omega)).mono (by
    rintro e w' ⟨rfl, rfl⟩
    exact ⟨by rw [trimL_dig (M := 4294967296) (by decide) hd9], Below.refl _ _⟩)
theorem P_add (P : Option Addr) (cp b p dv r : Nat) (W : World) (hd9 : dv ≤ 9) (h1 : RdAt W .u32 P (digs 4294967296 p)) (h2 : (digs 4294967296 p).length ≤ cp) (h3 : RdAt W .u32 (some ⟨b, 0, none⟩) [dv]) (hl : (digs 4294967296 p).length ≤ 401) (hr : r = p + dv) :
    Calls Tryd.prog 40 #[.slice P (digs 4294967296 p).length cp, .slice (some ⟨b, 0, none⟩) (digs 4294967296 dv).length 1] W (RetD .u32 4294967296 r W) := by
  have hl1 : (digs 4294967296 dv).length ≤ 1 := digs_length_le (by decide) (by omega)
  have h := add_any P (some ⟨b, 0, none⟩) cp 1 p dv W h1 (by rw [← trimL_dig (M := 4294967296) (by decide) hd9]; exact h3.trimL) (by omega) (by omega) h2 hl1
  rw [hr]
  exact h
theorem wrb8 {x : Int} (h : 0 ≤ x) (h' : x ≤ 255) : IntKind.u8.wrap x = x := by
  have e : IntKind.u8.wrap x = x % 256 := by simp [IntKind.wrap, IntKind.bits, IntKind.signed]
  rw [e]; omega
theorem wru32 {x : Int} (h : 0 ≤ x) (h' : x ≤ 4294967295) : IntKind.u32.wrap x = x := by
  have e : IntKind.u32.wrap x = x % 4294967296 := by simp [IntKind.wrap, IntKind.bits, IntKind.signed]
  rw [e]; omega

set_option maxHeartbeats 4000000 in
set_option maxRecDepth 100000 in
theorem Parse_bad (s t : ByteArray) (neg : Bool) (w : World) (h0 : 0 < t.size) (h48 : ¬ (t[0]'h0).toNat = 48) (hd : ¬ AllD t) (hsz : t.size ≤ 1000000000)
    (HC : ∀ W, Calls Tryd.prog 58 #[.string s, .string ⟨#[45]⟩] W (fun e w' => e = .returned (.tuple #[.string t, .bool neg]) ∧ Below W.heap.size W w')) :
    Calls Tryd.prog 30 #[.string s] w (RetIE 0 4 w) := by
  replace HC := fun W => Lib.hid (HC W)
  have HD := Lib.hid hd
  clear hd
  skip
  obtain ⟨e1, e2⟩ := str_full h0
  go_enter Tryd.func30, Tryd.ntmps30
  go_wp2_with fail
  have t2 := Ob.new (w) 23 #[.bool false, .string ⟨#[]⟩]
  have bl := ((Below.refl w.heap.size w).alloc (Nat.le_refl _) (.cells #[.bool false, .string ⟨#[]⟩] 23))
  try simp only [World.size_alloc] at t2
  generalize World.alloc w _ = W1 at t2 bl ⊢
  refine ((HC W1).out).mono ?_
  rintro e W2 ⟨rfl, hb⟩
  have t2 := t2.below hb t2.lt
  have bl := bl.trans (Below.mono hb bl.size)
  clear hb
  go_wp2_with fail
  clear HC h48
  go_loopw [32] (fun v32 wr => ∃ i : Nat, i ≤ t.size ∧ v32 = .int .i64 i ∧ Hid (∀ j (h : j < t.size), j < i → 48 ≤ t[j].toNat ∧ t[j].toNat ≤ 57) ∧ Ob wr w.heap.size 23 #[.bool false, .string ⟨#[]⟩] ∧ Below w.heap.size w wr) (fun v32 _ => t.size - (intOf v32).toNat)
  case atStart => exact ⟨0, by omega, rfl, Lib.hid (fun j h hj => by omega), t2, bl⟩
  case round =>
    clear t2 bl
    obtain ⟨i, hi, rfl, hI, t2, bl⟩ := hrel
    by_cases hil : i < t.size
    · have fr2 := t2.free
      obtain ⟨z2_0, z2_1⟩ := t2.cells2
      by_cases c1 : t[i].toNat < 48
      · have c1' : ((t[i].toNat : Nat) : Int) < 48 := by omega
        go_wp2_with fail
        clear fr2 z2_0 z2_1
        have t2 := t2.set2 (.bool false) (.string ⟨#[]⟩)
        have bl := (below_set (below_set bl (show w.heap.size ≤ w.heap.size by omega) 0 (.bool false)) (show w.heap.size ≤ w.heap.size by omega) 1 (.string ⟨#[]⟩))
        generalize World.setCell (World.setCell wr _ _) _ _ = W3 at t2 bl ⊢
        obtain ⟨r2_0, r2_1⟩ := t2.cells2
        exact bodyPost_ret (v := .tuple #[.agg #[.bool false, .string ⟨#[]⟩], .int .i64 4]) (by simp [results, Tryd.results30, go_sem, r2_0, r2_1]) rfl (⟨by rw [vI_zero], bl⟩)
      by_cases c2 : 57 < t[i].toNat
      · have c1' : ¬ ((t[i].toNat : Nat) : Int) < 48 := by omega
        have c2' : (57 : Int) < ((t[i].toNat : Nat) : Int) := by omega
        go_wp2_with fail
        clear fr2 z2_0 z2_1
        have t2 := t2.set2 (.bool false) (.string ⟨#[]⟩)
        have bl := (below_set (below_set bl (show w.heap.size ≤ w.heap.size by omega) 0 (.bool false)) (show w.heap.size ≤ w.heap.size by omega) 1 (.string ⟨#[]⟩))
        generalize World.setCell (World.setCell wr _ _) _ _ = W3 at t2 bl ⊢
        obtain ⟨r2_0, r2_1⟩ := t2.cells2
        exact bodyPost_ret (v := .tuple #[.agg #[.bool false, .string ⟨#[]⟩], .int .i64 4]) (by simp [results, Tryd.results30, go_sem, r2_0, r2_1]) rfl (⟨by rw [vI_zero], bl⟩)
      clear fr2 z2_0 z2_1
      have c1' : ¬ ((t[i].toNat : Nat) : Int) < 48 := by omega
      have c2' : ¬ (57 : Int) < ((t[i].toNat : Nat) : Int) := by omega
      go_wp2_with fail
      go_roundw
      case rel => exact ⟨i + 1, by omega, by go_num, Lib.hid (fun j h hj => by
        by_cases hji : j = i
        · subst hji; omega
        · exact hI.out j h (by omega)), t2, bl⟩
      case measure => simp [intOf]; omega
    · obtain rfl : i = t.size := by omega
      exact absurd (fun j h => hI.out j h h) HD.out
set_option maxHeartbeats 4000000 in
set_option maxRecDepth 100000 in
theorem Parse_long (s t : ByteArray) (neg : Bool) (w : World) (h0 : 0 < t.size) (h48 : ¬ (t[0]'h0).toNat = 48) (hd : AllD t) (hl : 400 < t.size) (hsz : t.size ≤ 1000000000)
    (HC : ∀ W, Calls Tryd.prog 58 #[.string s, .string ⟨#[45]⟩] W (fun e w' => e = .returned (.tuple #[.string t, .bool neg]) ∧ Below W.heap.size W w')) :
    Calls Tryd.prog 30 #[.string s] w (RetIE 0 3 w) := by
  replace HC := fun W => Lib.hid (HC W)
  have HD := Lib.hid hd
  clear hd
  have hl' : (400 : Int) < t.size := by omega
  obtain ⟨e1, e2⟩ := str_full h0
  go_enter Tryd.func30, Tryd.ntmps30
  go_wp2_with fail
  have t2 := Ob.new (w) 23 #[.bool false, .string ⟨#[]⟩]
  have bl := ((Below.refl w.heap.size w).alloc (Nat.le_refl _) (.cells #[.bool false, .string ⟨#[]⟩] 23))
  try simp only [World.size_alloc] at t2
  generalize World.alloc w _ = W1 at t2 bl ⊢
  refine ((HC W1).out).mono ?_
  rintro e W2 ⟨rfl, hb⟩
  have t2 := t2.below hb t2.lt
  have bl := bl.trans (Below.mono hb bl.size)
  clear hb
  go_wp2_with fail
  clear HC h48
  go_loopw [32] (fun v32 wr => ∃ i : Nat, i ≤ t.size ∧ v32 = .int .i64 i ∧ True ∧ Ob wr w.heap.size 23 #[.bool false, .string ⟨#[]⟩] ∧ Below w.heap.size w wr) (fun v32 _ => t.size - (intOf v32).toNat)
  case atStart => exact ⟨0, by omega, rfl, trivial, t2, bl⟩
  case round =>
    clear t2 bl
    obtain ⟨i, hi, rfl, hI, t2, bl⟩ := hrel
    by_cases hil : i < t.size
    · obtain ⟨c1, c2⟩ := HD.out i hil
      have c1' : ¬ ((t[i].toNat : Nat) : Int) < 48 := by omega
      have c2' : ¬ (57 : Int) < ((t[i].toNat : Nat) : Int) := by omega
      go_wp2_with fail
      go_roundw
      case rel => exact ⟨i + 1, by omega, by go_num, trivial, t2, bl⟩
      case measure => simp [intOf]; omega
    · obtain rfl : i = t.size := by omega
      have fr2 := t2.free
      obtain ⟨z2_0, z2_1⟩ := t2.cells2
      go_wp2_with fail
      clear fr2 z2_0 z2_1
      have t2 := t2.set2 (.bool false) (.string ⟨#[]⟩)
      have bl := (below_set (below_set bl (show w.heap.size ≤ w.heap.size by omega) 0 (.bool false)) (show w.heap.size ≤ w.heap.size by omega) 1 (.string ⟨#[]⟩))
      generalize World.setCell (World.setCell wr _ _) _ _ = W3 at t2 bl ⊢
      obtain ⟨r2_0, r2_1⟩ := t2.cells2
      exact bodyPost_ret (v := .tuple #[.agg #[.bool false, .string ⟨#[]⟩], .int .i64 3]) (by simp [results, Tryd.results30, go_sem, r2_0, r2_1]) rfl (⟨by rw [vI_zero], bl⟩)

set_option maxHeartbeats 4000000 in
set_option maxRecDepth 100000 in
theorem Parse_oka (s t : ByteArray) (neg : Bool) (w : World) (h0 : 0 < t.size) (h48 : ¬ (t[0]'h0).toNat = 48) (hd : AllD t) (hl : t.size ≤ 400)
    (HC : ∀ W, Calls Tryd.prog 58 #[.string s, .string ⟨#[45]⟩] W (fun e w' => e = .returned (.tuple #[.string t, .bool neg]) ∧ Below W.heap.size W w')) :
    Calls Tryd.prog 30 #[.string s] w (RetIE (sgnd neg (numAt t t.size)) 0 w) := by
  replace HC := fun W => Lib.hid (HC W)
  have HD := Lib.hid hd
  clear hd
  have hl' : ¬ (400 : Int) < t.size := by omega
  obtain ⟨e1, e2⟩ := str_full h0
  skip
  go_enter Tryd.func30, Tryd.ntmps30
  go_wp2_with fail
  have t2 := Ob.new (w) 23 #[.bool false, .string ⟨#[]⟩]
  have bl := ((Below.refl w.heap.size w).alloc (Nat.le_refl _) (.cells #[.bool false, .string ⟨#[]⟩] 23))
  try simp only [World.size_alloc] at t2
  generalize World.alloc w _ = W1 at t2 bl ⊢
  refine ((HC W1).out).mono ?_
  rintro e W2 ⟨rfl, hb⟩
  have t2 := t2.below hb t2.lt
  have bl := bl.trans (Below.mono hb bl.size)
  clear hb
  go_wp2_with fail
  clear HC h48
  go_loopw [32] (fun v32 wr => ∃ i : Nat, i ≤ t.size ∧ v32 = .int .i64 i ∧ Ob wr w.heap.size 23 #[.bool false, .string ⟨#[]⟩] ∧ Below w.heap.size w wr) (fun v32 _ => t.size - (intOf v32).toNat)
  case atStart => exact ⟨0, by omega, rfl, t2, bl⟩
  case round =>
    clear t2 bl
    obtain ⟨i, hi, rfl, t2, bl⟩ := hrel
    by_cases hil : i < t.size
    · obtain ⟨c1, c2⟩ := HD.out i hil
      have c1' : ¬ ((t[i].toNat : Nat) : Int) < 48 := by omega
      have c2' : ¬ (57 : Int) < ((t[i].toNat : Nat) : Int) := by omega
      go_wp2_with fail
      go_roundw
      case rel => exact ⟨i + 1, by omega, by go_num, t2, bl⟩
      case measure => simp [intOf]; omega
    · obtain rfl : i = t.size := by omega
      go_wp2_with fail
      go_loopw [7, 53] (fun v7 v53 wr => ∃ (i : Nat) (A : Option Addr) (c : Nat), i ≤ t.size ∧ v53 = .int .i64 i ∧ v7 = .slice A (digs 4294967296 (numAt t i)).length c ∧ (digs 4294967296 (numAt t i)).length ≤ c ∧ Hid (RdAt wr .u32 A (digs 4294967296 (numAt t i))) ∧ Ob wr w.heap.size 23 #[.bool false, .string ⟨#[]⟩] ∧ Below w.heap.size w wr) (fun _ v53 _ => t.size - (intOf v53).toNat)
      case atStart => exact ⟨0, none, 0, by omega, rfl, by rw [numAt, digs_zero]; rfl, by rw [numAt, digs_zero]; exact Nat.le_refl _, Lib.hid (by rw [numAt, digs_zero]; exact RdAt.nil _ _ _), t2, bl⟩
      case round =>
        clear t2 bl
        obtain ⟨i, A, c, hi, rfl, rfl, hc, hr, t2, bl⟩ := hrel
        have hlen : (digs 4294967296 (numAt t i)).length ≤ 400 := Nat.le_trans (numAt_len _ (by decide) t i (fun j _ => HD.out.dig j)) (by omega)
        by_cases hil : i < t.size
        · obtain ⟨c1, c2⟩ := HD.out i hil
          obtain ⟨dv, hdv⟩ : ∃ d, d = digAt t i := ⟨_, rfl⟩
          have hdt : digAt t i = t[i].toNat - 48 := by unfold digAt; rw [dif_pos hil]
          have hd9 : dv ≤ 9 := by omega
          have hlen2 := P_len t i (by omega) (fun j _ => HD.out.dig j)
          have HMUL := fun (A : Option Addr) c b W h1 h2 => Lib.hid (P_mul A c b (numAt t i) W h1 h2 hlen)
          have HTRM := fun b W h1 => Lib.hid (P_trim b dv W hd9 h1)
          have HADD := fun (P : Option Addr) cp b W h1 h2 h3 => Lib.hid (P_add P cp b (numAt t i * 10) dv (numAt t (i + 1)) W hd9 h1 h2 h3 hlen2 (by rw [hdv]; rfl))
          have q1 : IntKind.u8.wrap (((t[i].toNat : Nat) : Int) - 48) = (dv : Int) := by rw [show ((t[i].toNat : Nat) : Int) - 48 = (dv : Int) from by omega]; exact wrb8 (by omega) (by omega)
          have q2 : IntKind.u32.wrap (dv : Int) = (dv : Int) := wru32 (by omega) (by omega)
          have i1 : (0 : Int) ≤ (i : Int) := by omega
          have i2 : (i : Int) < t.size := by omega
          have HDV := Lib.hid hdv
          clear hdv hdt
          go_wp2_with fail
          refine region_tr (CB wr) 11 (.look 0 (.look 3 (.look 4 (.look 5 (.look 6 (.look 7 (.two 1 8 (.two 2 8 (.one 8 (.one 9 (.one 10 .nil))) (.one 2 (.one 9 (.one 10 .nil)))) (.one 1 (.one 2 (.one 9 (.one 10 .nil))))))))))) (by kernel_rfl) (by kernel_rfl) (CB.drew0 wr) ?_
          refine wpTr.eye _ (.slice A (digs 4294967296 (numAt t i)).length c) rfl (by kernel_rfl) (by intro w' hC; go_simp) ?_
          try simp only [Act.put, List.setIfInBounds_toArray, List.set_cons_zero, List.set_cons_succ]
          refine wpTr.eye _ (.string t) rfl (by kernel_rfl) (by intro w' hC; go_simp) ?_
          try simp only [Act.put, List.setIfInBounds_toArray, List.set_cons_zero, List.set_cons_succ]
          refine wpTr.eye _ (.int .i64 i) rfl (by kernel_rfl) (by intro w' hC; go_simp) ?_
          try simp only [Act.put, List.setIfInBounds_toArray, List.set_cons_zero, List.set_cons_succ]
          refine wpTr.eye _ (.int .u8 ((t[i]'hil).toNat : Nat)) rfl (by kernel_rfl) (by intro w' hC; go_simp) ?_
          try simp only [Act.put, List.setIfInBounds_toArray, List.set_cons_zero, List.set_cons_succ]
          refine wpTr.eye _ (.int .u8 (dv : Nat)) rfl (by kernel_rfl) (by intro w' hC; go_simp) ?_
          try simp only [Act.put, List.setIfInBounds_toArray, List.set_cons_zero, List.set_cons_succ]
          refine wpTr.eye _ (.int .u32 (dv : Nat)) rfl (by kernel_rfl) (by intro w' hC; go_simp) ?_
          try simp only [Act.put, List.setIfInBounds_toArray, List.set_cons_zero, List.set_cons_succ]
          clear q1 q2 i1 i2
          have hS := CB.drew0 wr
          have hr := Lib.hid (hr.out.below ((Below.refl wr.heap.size wr).drew))
          have t2 := t2.below ((Below.refl wr.heap.size wr).drew) t2.lt
          have bl := bl.trans (Below.mono ((Below.refl wr.heap.size wr).drew) bl.size)
          generalize World.drew wr = V0 at hS hr t2 bl ⊢
          refine wpTr.do2 ?_ ?_
          focus
            refine wpTr.do1 _ rfl (fun K hK => ?_)
            go_simp
            have hS2 := hS.step ((Below.refl V0.heap.size V0).alloc (Nat.le_refl _) (.cells #[.int .u32 (10 : Nat)] 58))
            refine hK.out _ _ hS2 ?_
            clear hK K
            have hT := Lib.hid (rd_cell (Ob.new V0 58 #[.int .u32 (10 : Nat)]))
            have hA := (Below.refl V0.heap.size V0).alloc (Nat.le_refl _) (.cells #[.int .u32 (10 : Nat)] 58)
            have hr := Lib.hid (hr.out.below hA)
            have t2 := t2.below hA t2.lt
            have bl := bl.trans (Below.mono hA bl.size)
            have hS := hS2
            clear hS2 hA
            generalize hbn : V0.heap.size = bhT at *
            clear hbn
            generalize World.alloc V0 _ = V1 at *
            try simp only [Act.put, List.setIfInBounds_toArray, List.set_cons_zero, List.set_cons_succ]
            refine wpTr.do2 ?_ ?_
            focus
              refine wpTr.do1 _ rfl (fun K hK => ?_)
              go_simp
              refine (HMUL A c bhT V1 hr.out hT.out).out.mono ?_
              rintro e V2 ⟨P, cp, rfl, hcp, hP0, hb⟩
              have hS2 := hS.step hb
              dsimp only
              refine hK.out _ _ hS2 ?_
              clear hK K
              have t2 := t2.below hb t2.lt
              have bl := bl.trans (Below.mono hb bl.size)
              have hS := hS2
              clear hS2 hb
              try simp only [Act.put, List.setIfInBounds_toArray, List.set_cons_zero, List.set_cons_succ]
              have hP := Lib.hid hP0
              have hCP := Lib.hid hcp
              clear hP0 hcp
              refine wpTr.do1 _ rfl (fun K hK => ?_)
              go_simp
              have hS2 := hS.step ((Below.refl V2.heap.size V2).alloc (Nat.le_refl _) (.cells #[.int .u32 (dv : Nat)] 58))
              refine hK.out _ _ hS2 ?_
              clear hK K
              have hD := Lib.hid (rd_cell (Ob.new V2 58 #[.int .u32 (dv : Nat)]))
              have hA := (Below.refl V2.heap.size V2).alloc (Nat.le_refl _) (.cells #[.int .u32 (dv : Nat)] 58)
              have hP := Lib.hid (hP.out.below hA)
              have t2 := t2.below hA t2.lt
              have bl := bl.trans (Below.mono hA bl.size)
              have hS := hS2
              clear hS2 hA
              generalize hbn : V2.heap.size = bhD at *
              clear hbn
              generalize World.alloc V2 _ = V3 at *
              try simp only [Act.put, List.setIfInBounds_toArray, List.set_cons_zero, List.set_cons_succ]
              refine wpTr.do1 _ rfl (fun K hK => ?_)
              go_simp
              refine (HTRM bhD V3 hD.out).out.mono ?_
              rintro e V4 ⟨rfl, hb⟩
              have hS2 := hS.step hb
              dsimp only
              refine hK.out _ _ hS2 ?_
              clear hK K
              have hP := Lib.hid (hP.out.below hb)
              have hD := Lib.hid (hD.out.below hb)
              have t2 := t2.below hb t2.lt
              have bl := bl.trans (Below.mono hb bl.size)
              have hS := hS2
              clear hS2 hb
              try simp only [Act.put, List.setIfInBounds_toArray, List.set_cons_zero, List.set_cons_succ]
              refine wpTr.do1 _ rfl (fun K hK => ?_)
              go_simp
              refine (HADD P cp bhD V4 hP.out hCP.out (Lib.hid hD.out).out).out.mono ?_
              rintro e V5 ⟨R, cr, rfl, hcr, hR0, hb⟩
              have hS2 := hS.step hb
              dsimp only
              refine hK.out _ _ hS2 ?_
              clear hK K
              have t2 := t2.below hb t2.lt
              have bl := bl.trans (Below.mono hb bl.size)
              have hS := hS2
              clear hS2 hb
              try simp only [Act.put, List.setIfInBounds_toArray, List.set_cons_zero, List.set_cons_succ]
              have hR := Lib.hid hR0
              clear hR0
              simp only [wpTr, List.drop_succ_cons, List.drop_zero]
              go_wp2_with fail
              refine NoPanic.normal ?_
              go_wp2_with fail
              go_roundw
              case rel => exact ⟨i + 1, R, cr, by omega, by go_num, rfl, hcr, hR, t2, bl⟩
              case measure => simp [intOf]; omega
            focus
              refine wpTr.do1 _ rfl (fun K hK => ?_)
              go_simp
              have hS2 := hS.step ((Below.refl V1.heap.size V1).alloc (Nat.le_refl _) (.cells #[.int .u32 (dv : Nat)] 58))
              refine hK.out _ _ hS2 ?_
              clear hK K
              have hD := Lib.hid (rd_cell (Ob.new V1 58 #[.int .u32 (dv : Nat)]))
              have hA := (Below.refl V1.heap.size V1).alloc (Nat.le_refl _) (.cells #[.int .u32 (dv : Nat)] 58)
              have hr := Lib.hid (hr.out.below hA)
              have hT := Lib.hid (hT.out.below hA)
              have t2 := t2.below hA t2.lt
              have bl := bl.trans (Below.mono hA bl.size)
              have hS := hS2
              clear hS2 hA
              generalize hbn : V1.heap.size = bhD at *
              clear hbn
              generalize World.alloc V1 _ = V6 at *
              try simp only [Act.put, List.setIfInBounds_toArray, List.set_cons_zero, List.set_cons_succ]
              refine wpTr.do1 _ rfl (fun K hK => ?_)
              go_simp
              refine (HMUL A c bhT V6 hr.out hT.out).out.mono ?_
              rintro e V7 ⟨P, cp, rfl, hcp, hP0, hb⟩
              have hS2 := hS.step hb
              dsimp only
              refine hK.out _ _ hS2 ?_
              clear hK K
              have hD := Lib.hid (hD.out.below hb)
              have t2 := t2.below hb t2.lt
              have bl := bl.trans (Below.mono hb bl.size)
              have hS := hS2
              clear hS2 hb
              try simp only [Act.put, List.setIfInBounds_toArray, List.set_cons_zero, List.set_cons_succ]
              have hP := Lib.hid hP0
              have hCP := Lib.hid hcp
              clear hP0 hcp
              refine wpTr.do1 _ rfl (fun K hK => ?_)
              go_simp
              refine (HTRM bhD V7 hD.out).out.mono ?_
              rintro e V8 ⟨rfl, hb⟩
              have hS2 := hS.step hb
              dsimp only
              refine hK.out _ _ hS2 ?_
              clear hK K
              have hP := Lib.hid (hP.out.below hb)
              have hD := Lib.hid (hD.out.below hb)
              have t2 := t2.below hb t2.lt
              have bl := bl.trans (Below.mono hb bl.size)
              have hS := hS2
              clear hS2 hb
              try simp only [Act.put, List.setIfInBounds_toArray, List.set_cons_zero, List.set_cons_succ]
              refine wpTr.do1 _ rfl (fun K hK => ?_)
              go_simp
              refine (HADD P cp bhD V8 hP.out hCP.out (Lib.hid hD.out).out).out.mono ?_
              rintro e V9 ⟨R, cr, rfl, hcr, hR0, hb⟩
              have hS2 := hS.step hb
              dsimp only
              refine hK.out _ _ hS2 ?_
              clear hK K
              have t2 := t2.below hb t2.lt
              have bl := bl.trans (Below.mono hb bl.size)
              have hS := hS2
              clear hS2 hb
              try simp only [Act.put, List.setIfInBounds_toArray, List.set_cons_zero, List.set_cons_succ]
              have hR := Lib.hid hR0
              clear hR0
              simp only [wpTr, List.drop_succ_cons, List.drop_zero]
              go_wp2_with fail
              refine NoPanic.normal ?_
              go_wp2_with fail
              go_roundw
              case rel => exact ⟨i + 1, R, cr, by omega, by go_num, rfl, hcr, hR, t2, bl⟩
              case measure => simp [intOf]; omega
          focus
            refine wpTr.do1 _ rfl (fun K hK => ?_)
            go_simp
            have hS2 := hS.step ((Below.refl V0.heap.size V0).alloc (Nat.le_refl _) (.cells #[.int .u32 (dv : Nat)] 58))
            refine hK.out _ _ hS2 ?_
            clear hK K
            have hD := Lib.hid (rd_cell (Ob.new V0 58 #[.int .u32 (dv : Nat)]))
            have hA := (Below.refl V0.heap.size V0).alloc (Nat.le_refl _) (.cells #[.int .u32 (dv : Nat)] 58)
            have hr := Lib.hid (hr.out.below hA)
            have t2 := t2.below hA t2.lt
            have bl := bl.trans (Below.mono hA bl.size)
            have hS := hS2
            clear hS2 hA
            generalize hbn : V0.heap.size = bhD at *
            clear hbn
            generalize World.alloc V0 _ = V10 at *
            try simp only [Act.put, List.setIfInBounds_toArray, List.set_cons_zero, List.set_cons_succ]
            refine wpTr.do1 _ rfl (fun K hK => ?_)
            go_simp
            have hS2 := hS.step ((Below.refl V10.heap.size V10).alloc (Nat.le_refl _) (.cells #[.int .u32 (10 : Nat)] 58))
            refine hK.out _ _ hS2 ?_
            clear hK K
            have hT := Lib.hid (rd_cell (Ob.new V10 58 #[.int .u32 (10 : Nat)]))
            have hA := (Below.refl V10.heap.size V10).alloc (Nat.le_refl _) (.cells #[.int .u32 (10 : Nat)] 58)
            have hr := Lib.hid (hr.out.below hA)
            have hD := Lib.hid (hD.out.below hA)
            have t2 := t2.below hA t2.lt
            have bl := bl.trans (Below.mono hA bl.size)
            have hS := hS2
            clear hS2 hA
            generalize hbn : V10.heap.size = bhT at *
            clear hbn
            generalize World.alloc V10 _ = V11 at *
            try simp only [Act.put, List.setIfInBounds_toArray, List.set_cons_zero, List.set_cons_succ]
            refine wpTr.do1 _ rfl (fun K hK => ?_)
            go_simp
            refine (HMUL A c bhT V11 hr.out hT.out).out.mono ?_
            rintro e V12 ⟨P, cp, rfl, hcp, hP0, hb⟩
            have hS2 := hS.step hb
            dsimp only
            refine hK.out _ _ hS2 ?_
            clear hK K
            have hD := Lib.hid (hD.out.below hb)
            have t2 := t2.below hb t2.lt
            have bl := bl.trans (Below.mono hb bl.size)
            have hS := hS2
            clear hS2 hb
            try simp only [Act.put, List.setIfInBounds_toArray, List.set_cons_zero, List.set_cons_succ]
            have hP := Lib.hid hP0
            have hCP := Lib.hid hcp
            clear hP0 hcp
            refine wpTr.do1 _ rfl (fun K hK => ?_)
            go_simp
            refine (HTRM bhD V12 hD.out).out.mono ?_
            rintro e V13 ⟨rfl, hb⟩
            have hS2 := hS.step hb
            dsimp only
            refine hK.out _ _ hS2 ?_
            clear hK K
            have hP := Lib.hid (hP.out.below hb)
            have hD := Lib.hid (hD.out.below hb)
            have t2 := t2.below hb t2.lt
            have bl := bl.trans (Below.mono hb bl.size)
            have hS := hS2
            clear hS2 hb
            try simp only [Act.put, List.setIfInBounds_toArray, List.set_cons_zero, List.set_cons_succ]
            refine wpTr.do1 _ rfl (fun K hK => ?_)
            go_simp
            refine (HADD P cp bhD V13 hP.out hCP.out (Lib.hid hD.out).out).out.mono ?_
            rintro e V14 ⟨R, cr, rfl, hcr, hR0, hb⟩
            have hS2 := hS.step hb
            dsimp only
            refine hK.out _ _ hS2 ?_
            clear hK K
            have t2 := t2.below hb t2.lt
            have bl := bl.trans (Below.mono hb bl.size)
            have hS := hS2
            clear hS2 hb
            try simp only [Act.put, List.setIfInBounds_toArray, List.set_cons_zero, List.set_cons_succ]
            have hR := Lib.hid hR0
            clear hR0
            simp only [wpTr, List.drop_succ_cons, List.drop_zero]
            go_wp2_with fail
            refine NoPanic.normal ?_
            go_wp2_with fail
            go_roundw
            case rel => exact ⟨i + 1, R, cr, by omega, by go_num, rfl, hcr, hR, t2, bl⟩
            case measure => simp [intOf]; omega
        · obtain rfl : i = t.size := by omega
          have HW := Lib.hid (with_any A c (numAt t t.size) neg wr hr.out (by omega))
          go_wp2_with fail
          refine (HW.out).mono ?_
          rintro e W1 ⟨rfl, hb⟩
          have t2 := t2.below hb t2.lt
          have bl := bl.trans (Below.mono hb bl.size)
          clear hb
          try simp only [ptr, Act.put, List.setIfInBounds_toArray, List.set_cons_zero, List.set_cons_succ]
          have fr2 := t2.free
          obtain ⟨z2_0, z2_1⟩ := t2.cells2
          go_wp2_with fail
          clear fr2 z2_0 z2_1
          have t2 := t2.set2 (.bool (sg (sgnd neg (numAt t t.size)))) (.string (mg (sgnd neg (numAt t t.size))))
          have bl := (below_set (below_set bl (show w.heap.size ≤ w.heap.size by omega) 0 (.bool (sg (sgnd neg (numAt t t.size))))) (show w.heap.size ≤ w.heap.size by omega) 1 (.string (mg (sgnd neg (numAt t t.size)))))
          generalize World.setCell (World.setCell W1 _ _) _ _ = W2 at t2 bl ⊢
          obtain ⟨r2_0, r2_1⟩ := t2.cells2
          exact bodyPost_ret (v := .tuple #[vI (sgnd neg (numAt t t.size)), .int .i64 0]) (by simp [results, Tryd.results30, go_sem, r2_0, r2_1]) rfl (⟨rfl, bl⟩)
set_option maxHeartbeats 4000000 in
set_option maxRecDepth 100000 in
theorem Parse_okb (s t : ByteArray) (neg : Bool) (w : World) (h0 : 0 < t.size) (h48 : (t[0]'h0).toNat = 48) (h1 : ¬ 1 < t.size) (hd : AllD t) (hl : t.size ≤ 400)
    (HC : ∀ W, Calls Tryd.prog 58 #[.string s, .string ⟨#[45]⟩] W (fun e w' => e = .returned (.tuple #[.string t, .bool false]) ∧ Below W.heap.size W w')) :
    Calls Tryd.prog 30 #[.string s] w (RetIE (sgnd false (numAt t t.size)) 0 w) := by
  replace HC := fun W => Lib.hid (HC W)
  have HD := Lib.hid hd
  clear hd
  have hl' : ¬ (400 : Int) < t.size := by omega
  obtain ⟨e1, e2⟩ := str_full h0
  have hs' : ¬ (1 : Int) < t.size := by omega
  go_enter Tryd.func30, Tryd.ntmps30
  go_wp2_with fail
  have t2 := Ob.new (w) 23 #[.bool false, .string ⟨#[]⟩]
  have bl := ((Below.refl w.heap.size w).alloc (Nat.le_refl _) (.cells #[.bool false, .string ⟨#[]⟩] 23))
  try simp only [World.size_alloc] at t2
  generalize World.alloc w _ = W1 at t2 bl ⊢
  refine ((HC W1).out).mono ?_
  rintro e W2 ⟨rfl, hb⟩
  have t2 := t2.below hb t2.lt
  have bl := bl.trans (Below.mono hb bl.size)
  clear hb
  go_wp2_with fail
  clear HC h48
  go_loopw [32] (fun v32 wr => ∃ i : Nat, i ≤ t.size ∧ v32 = .int .i64 i ∧ Ob wr w.heap.size 23 #[.bool false, .string ⟨#[]⟩] ∧ Below w.heap.size w wr) (fun v32 _ => t.size - (intOf v32).toNat)
  case atStart => exact ⟨0, by omega, rfl, t2, bl⟩
  case round =>
    clear t2 bl
    obtain ⟨i, hi, rfl, t2, bl⟩ := hrel
    by_cases hil : i < t.size
    · obtain ⟨c1, c2⟩ := HD.out i hil
      have c1' : ¬ ((t[i].toNat : Nat) : Int) < 48 := by omega
      have c2' : ¬ (57 : Int) < ((t[i].toNat : Nat) : Int) := by omega
      go_wp2_with fail
      go_roundw
      case rel => exact ⟨i + 1, by omega, by go_num, t2, bl⟩
      case measure => simp [intOf]; omega
    · obtain rfl : i = t.size := by omega
      go_wp2_with fail
      go_loopw [7, 53] (fun v7 v53 wr => ∃ (i : Nat) (A : Option Addr) (c : Nat), i ≤ t.size ∧ v53 = .int .i64 i ∧ v7 = .slice A (digs 4294967296 (numAt t i)).length c ∧ (digs 4294967296 (numAt t i)).length ≤ c ∧ Hid (RdAt wr .u32 A (digs 4294967296 (numAt t i))) ∧ Ob wr w.heap.size 23 #[.bool false, .string ⟨#[]⟩] ∧ Below w.heap.size w wr) (fun _ v53 _ => t.size - (intOf v53).toNat)
      case atStart => exact ⟨0, none, 0, by omega, rfl, by rw [numAt, digs_zero]; rfl, by rw [numAt, digs_zero]; exact Nat.le_refl _, Lib.hid (by rw [numAt, digs_zero]; exact RdAt.nil _ _ _), t2, bl⟩
      case round =>
        clear t2 bl
        obtain ⟨i, A, c, hi, rfl, rfl, hc, hr, t2, bl⟩ := hrel
        have hlen : (digs 4294967296 (numAt t i)).length ≤ 400 := Nat.le_trans (numAt_len _ (by decide) t i (fun j _ => HD.out.dig j)) (by omega)
        by_cases hil : i < t.size
        · obtain ⟨c1, c2⟩ := HD.out i hil
          obtain ⟨dv, hdv⟩ : ∃ d, d = digAt t i := ⟨_, rfl⟩
          have hdt : digAt t i = t[i].toNat - 48 := by unfold digAt; rw [dif_pos hil]
          have hd9 : dv ≤ 9 := by omega
          have hlen2 := P_len t i (by omega) (fun j _ => HD.out.dig j)
          have HMUL := fun (A : Option Addr) c b W h1 h2 => Lib.hid (P_mul A c b (numAt t i) W h1 h2 hlen)
          have HTRM := fun b W h1 => Lib.hid (P_trim b dv W hd9 h1)
          have HADD := fun (P : Option Addr) cp b W h1 h2 h3 => Lib.hid (P_add P cp b (numAt t i * 10) dv (numAt t (i + 1)) W hd9 h1 h2 h3 hlen2 (by rw [hdv]; rfl))
          have q1 : IntKind.u8.wrap (((t[i].toNat : Nat) : Int) - 48) = (dv : Int) := by rw [show ((t[i].toNat : Nat) : Int) - 48 = (dv : Int) from by omega]; exact wrb8 (by omega) (by omega)
          have q2 : IntKind.u32.wrap (dv : Int) = (dv : Int) := wru32 (by omega) (by omega)
          have i1 : (0 : Int) ≤ (i : Int) := by omega
          have i2 : (i : Int) < t.size := by omega
          have HDV := Lib.hid hdv
          clear hdv hdt
          go_wp2_with fail
          refine region_tr (CB wr) 11 (.look 0 (.look 3 (.look 4 (.look 5 (.look 6 (.look 7 (.two 1 8 (.two 2 8 (.one 8 (.one 9 (.one 10 .nil))) (.one 2 (.one 9 (.one 10 .nil)))) (.one 1 (.one 2 (.one 9 (.one 10 .nil))))))))))) (by kernel_rfl) (by kernel_rfl) (CB.drew0 wr) ?_
          refine wpTr.eye _ (.slice A (digs 4294967296 (numAt t i)).length c) rfl (by kernel_rfl) (by intro w' hC; go_simp) ?_
          try simp only [Act.put, List.setIfInBounds_toArray, List.set_cons_zero, List.set_cons_succ]
          refine wpTr.eye _ (.string t) rfl (by kernel_rfl) (by intro w' hC; go_simp) ?_
          try simp only [Act.put, List.setIfInBounds_toArray, List.set_cons_zero, List.set_cons_succ]
          refine wpTr.eye _ (.int .i64 i) rfl (by kernel_rfl) (by intro w' hC; go_simp) ?_
          try simp only [Act.put, List.setIfInBounds_toArray, List.set_cons_zero, List.set_cons_succ]
          refine wpTr.eye _ (.int .u8 ((t[i]'hil).toNat : Nat)) rfl (by kernel_rfl) (by intro w' hC; go_simp) ?_
          try simp only [Act.put, List.setIfInBounds_toArray, List.set_cons_zero, List.set_cons_succ]
          refine wpTr.eye _ (.int .u8 (dv : Nat)) rfl (by kernel_rfl) (by intro w' hC; go_simp) ?_
          try simp only [Act.put, List.setIfInBounds_toArray, List.set_cons_zero, List.set_cons_succ]
          refine wpTr.eye _ (.int .u32 (dv : Nat)) rfl (by kernel_rfl) (by intro w' hC; go_simp) ?_
          try simp only [Act.put, List.setIfInBounds_toArray, List.set_cons_zero, List.set_cons_succ]
          clear q1 q2 i1 i2
          have hS := CB.drew0 wr
          have hr := Lib.hid (hr.out.below ((Below.refl wr.heap.size wr).drew))
          have t2 := t2.below ((Below.refl wr.heap.size wr).drew) t2.lt
          have bl := bl.trans (Below.mono ((Below.refl wr.heap.size wr).drew) bl.size)
          generalize World.drew wr = V0 at hS hr t2 bl ⊢
          refine wpTr.do2 ?_ ?_
          focus
            refine wpTr.do1 _ rfl (fun K hK => ?_)
            go_simp
            have hS2 := hS.step ((Below.refl V0.heap.size V0).alloc (Nat.le_refl _) (.cells #[.int .u32 (10 : Nat)] 58))
            refine hK.out _ _ hS2 ?_
            clear hK K
            have hT := Lib.hid (rd_cell (Ob.new V0 58 #[.int .u32 (10 : Nat)]))
            have hA := (Below.refl V0.heap.size V0).alloc (Nat.le_refl _) (.cells #[.int .u32 (10 : Nat)] 58)
            have hr := Lib.hid (hr.out.below hA)
            have t2 := t2.below hA t2.lt
            have bl := bl.trans (Below.mono hA bl.size)
            have hS := hS2
            clear hS2 hA
            generalize hbn : V0.heap.size = bhT at *
            clear hbn
            generalize World.alloc V0 _ = V1 at *
            try simp only [Act.put, List.setIfInBounds_toArray, List.set_cons_zero, List.set_cons_succ]
            refine wpTr.do2 ?_ ?_
            focus
              refine wpTr.do1 _ rfl (fun K hK => ?_)
              go_simp
              refine (HMUL A c bhT V1 hr.out hT.out).out.mono ?_
              rintro e V2 ⟨P, cp, rfl, hcp, hP0, hb⟩
              have hS2 := hS.step hb
              dsimp only
              refine hK.out _ _ hS2 ?_
              clear hK K
              have t2 := t2.below hb t2.lt
              have bl := bl.trans (Below.mono hb bl.size)
              have hS := hS2
              clear hS2 hb
              try simp only [Act.put, List.setIfInBounds_toArray, List.set_cons_zero, List.set_cons_succ]
              have hP := Lib.hid hP0
              have hCP := Lib.hid hcp
              clear hP0 hcp
              refine wpTr.do1 _ rfl (fun K hK => ?_)
              go_simp
              have hS2 := hS.step ((Below.refl V2.heap.size V2).alloc (Nat.le_refl _) (.cells #[.int .u32 (dv : Nat)] 58))
              refine hK.out _ _ hS2 ?_
              clear hK K
              have hD := Lib.hid (rd_cell (Ob.new V2 58 #[.int .u32 (dv : Nat)]))
              have hA := (Below.refl V2.heap.size V2).alloc (Nat.le_refl _) (.cells #[.int .u32 (dv : Nat)] 58)
              have hP := Lib.hid (hP.out.below hA)
              have t2 := t2.below hA t2.lt
              have bl := bl.trans (Below.mono hA bl.size)
              have hS := hS2
              clear hS2 hA
              generalize hbn : V2.heap.size = bhD at *
              clear hbn
              generalize World.alloc V2 _ = V3 at *
              try simp only [Act.put, List.setIfInBounds_toArray, List.set_cons_zero, List.set_cons_succ]
              refine wpTr.do1 _ rfl (fun K hK => ?_)
              go_simp
              refine (HTRM bhD V3 hD.out).out.mono ?_
              rintro e V4 ⟨rfl, hb⟩
              have hS2 := hS.step hb
              dsimp only
              refine hK.out _ _ hS2 ?_
              clear hK K
              have hP := Lib.hid (hP.out.below hb)
              have hD := Lib.hid (hD.out.below hb)
              have t2 := t2.below hb t2.lt
              have bl := bl.trans (Below.mono hb bl.size)
              have hS := hS2
              clear hS2 hb
              try simp only [Act.put, List.setIfInBounds_toArray, List.set_cons_zero, List.set_cons_succ]
              refine wpTr.do1 _ rfl (fun K hK => ?_)
              go_simp
              refine (HADD P cp bhD V4 hP.out hCP.out (Lib.hid hD.out).out).out.mono ?_
              rintro e V5 ⟨R, cr, rfl, hcr, hR0, hb⟩
              have hS2 := hS.step hb
              dsimp only
              refine hK.out _ _ hS2 ?_
              clear hK K
              have t2 := t2.below hb t2.lt
              have bl := bl.trans (Below.mono hb bl.size)
              have hS := hS2
              clear hS2 hb
              try simp only [Act.put, List.setIfInBounds_toArray, List.set_cons_zero, List.set_cons_succ]
              have hR := Lib.hid hR0
              clear hR0
              simp only [wpTr, List.drop_succ_cons, List.drop_zero]
              go_wp2_with fail
              refine NoPanic.normal ?_
              go_wp2_with fail
              go_roundw
              case rel => exact ⟨i + 1, R, cr, by omega, by go_num, rfl, hcr, hR, t2, bl⟩
              case measure => simp [intOf]; omega
            focus
              refine wpTr.do1 _ rfl (fun K hK => ?_)
              go_simp
              have hS2 := hS.step ((Below.refl V1.heap.size V1).alloc (Nat.le_refl _) (.cells #[.int .u32 (dv : Nat)] 58))
              refine hK.out _ _ hS2 ?_
              clear hK K
              have hD := Lib.hid (rd_cell (Ob.new V1 58 #[.int .u32 (dv : Nat)]))
              have hA := (Below.refl V1.heap.size V1).alloc (Nat.le_refl _) (.cells #[.int .u32 (dv : Nat)] 58)
              have hr := Lib.hid (hr.out.below hA)
              have hT := Lib.hid (hT.out.below hA)
              have t2 := t2.below hA t2.lt
              have bl := bl.trans (Below.mono hA bl.size)
              have hS := hS2
              clear hS2 hA
              generalize hbn : V1.heap.size = bhD at *
              clear hbn
              generalize World.alloc V1 _ = V6 at *
              try simp only [Act.put, List.setIfInBounds_toArray, List.set_cons_zero, List.set_cons_succ]
              refine wpTr.do1 _ rfl (fun K hK => ?_)
              go_simp
              refine (HMUL A c bhT V6 hr.out hT.out).out.mono ?_
              rintro e V7 ⟨P, cp, rfl, hcp, hP0, hb⟩
              have hS2 := hS.step hb
              dsimp only
              refine hK.out _ _ hS2 ?_
              clear hK K
              have hD := Lib.hid (hD.out.below hb)
              have t2 := t2.below hb t2.lt
              have bl := bl.trans (Below.mono hb bl.size)
              have hS := hS2
              clear hS2 hb
              try simp only [Act.put, List.setIfInBounds_toArray, List.set_cons_zero, List.set_cons_succ]
              have hP := Lib.hid hP0
              have hCP := Lib.hid hcp
              clear hP0 hcp
              refine wpTr.do1 _ rfl (fun K hK => ?_)
              go_simp
              refine (HTRM bhD V7 hD.out).out.mono ?_
              rintro e V8 ⟨rfl, hb⟩
              have hS2 := hS.step hb
              dsimp only
              refine hK.out _ _ hS2 ?_
              clear hK K
              have hP := Lib.hid (hP.out.below hb)
              have hD := Lib.hid (hD.out.below hb)
              have t2 := t2.below hb t2.lt
              have bl := bl.trans (Below.mono hb bl.size)
              have hS := hS2
              clear hS2 hb
              try simp only [Act.put, List.setIfInBounds_toArray, List.set_cons_zero, List.set_cons_succ]
              refine wpTr.do1 _ rfl (fun K hK => ?_)
              go_simp
              refine (HADD P cp bhD V8 hP.out hCP.out (Lib.hid hD.out).out).out.mono ?_
              rintro e V9 ⟨R, cr, rfl, hcr, hR0, hb⟩
              have hS2 := hS.step hb
              dsimp only
              refine hK.out _ _ hS2 ?_
              clear hK K
              have t2 := t2.below hb t2.lt
              have bl := bl.trans (Below.mono hb bl.size)
              have hS := hS2
              clear hS2 hb
              try simp only [Act.put, List.setIfInBounds_toArray, List.set_cons_zero, List.set_cons_succ]
              have hR := Lib.hid hR0
              clear hR0
              simp only [wpTr, List.drop_succ_cons, List.drop_zero]
              go_wp2_with fail
              refine NoPanic.normal ?_
              go_wp2_with fail
              go_roundw
              case rel => exact ⟨i + 1, R, cr, by omega, by go_num, rfl, hcr, hR, t2, bl⟩
              case measure => simp [intOf]; omega
          focus
            refine wpTr.do1 _ rfl (fun K hK => ?_)
            go_simp
            have hS2 := hS.step ((Below.refl V0.heap.size V0).alloc (Nat.le_refl _) (.cells #[.int .u32 (dv : Nat)] 58))
            refine hK.out _ _ hS2 ?_
            clear hK K
            have hD := Lib.hid (rd_cell (Ob.new V0 58 #[.int .u32 (dv : Nat)]))
            have hA := (Below.refl V0.heap.size V0).alloc (Nat.le_refl _) (.cells #[.int .u32 (dv : Nat)] 58)
            have hr := Lib.hid (hr.out.below hA)
            have t2 := t2.below hA t2.lt
            have bl := bl.trans (Below.mono hA bl.size)
            have hS := hS2
            clear hS2 hA
            generalize hbn : V0.heap.size = bhD at *
            clear hbn
            generalize World.alloc V0 _ = V10 at *
            try simp only [Act.put, List.setIfInBounds_toArray, List.set_cons_zero, List.set_cons_succ]
            refine wpTr.do1 _ rfl (fun K hK => ?_)
            go_simp
            have hS2 := hS.step ((Below.refl V10.heap.size V10).alloc (Nat.le_refl _) (.cells #[.int .u32 (10 : Nat)] 58))
            refine hK.out _ _ hS2 ?_
            clear hK K
            have hT := Lib.hid (rd_cell (Ob.new V10 58 #[.int .u32 (10 : Nat)]))
            have hA := (Below.refl V10.heap.size V10).alloc (Nat.le_refl _) (.cells #[.int .u32 (10 : Nat)] 58)
            have hr := Lib.hid (hr.out.below hA)
            have hD := Lib.hid (hD.out.below hA)
            have t2 := t2.below hA t2.lt
            have bl := bl.trans (Below.mono hA bl.size)
            have hS := hS2
            clear hS2 hA
            generalize hbn : V10.heap.size = bhT at *
            clear hbn
            generalize World.alloc V10 _ = V11 at *
            try simp only [Act.put, List.setIfInBounds_toArray, List.set_cons_zero, List.set_cons_succ]
            refine wpTr.do1 _ rfl (fun K hK => ?_)
            go_simp
            refine (HMUL A c bhT V11 hr.out hT.out).out.mono ?_
            rintro e V12 ⟨P, cp, rfl, hcp, hP0, hb⟩
            have hS2 := hS.step hb
            dsimp only
            refine hK.out _ _ hS2 ?_
            clear hK K
            have hD := Lib.hid (hD.out.below hb)
            have t2 := t2.below hb t2.lt
            have bl := bl.trans (Below.mono hb bl.size)
            have hS := hS2
            clear hS2 hb
            try simp only [Act.put, List.setIfInBounds_toArray, List.set_cons_zero, List.set_cons_succ]
            have hP := Lib.hid hP0
            have hCP := Lib.hid hcp
            clear hP0 hcp
            refine wpTr.do1 _ rfl (fun K hK => ?_)
            go_simp
            refine (HTRM bhD V12 hD.out).out.mono ?_
            rintro e V13 ⟨rfl, hb⟩
            have hS2 := hS.step hb
            dsimp only
            refine hK.out _ _ hS2 ?_
            clear hK K
            have hP := Lib.hid (hP.out.below hb)
            have hD := Lib.hid (hD.out.below hb)
            have t2 := t2.below hb t2.lt
            have bl := bl.trans (Below.mono hb bl.size)
            have hS := hS2
            clear hS2 hb
            try simp only [Act.put, List.setIfInBounds_toArray, List.set_cons_zero, List.set_cons_succ]
            refine wpTr.do1 _ rfl (fun K hK => ?_)
            go_simp
            refine (HADD P cp bhD V13 hP.out hCP.out (Lib.hid hD.out).out).out.mono ?_
            rintro e V14 ⟨R, cr, rfl, hcr, hR0, hb⟩
            have hS2 := hS.step hb
            dsimp only
            refine hK.out _ _ hS2 ?_
            clear hK K
            have t2 := t2.below hb t2.lt
            have bl := bl.trans (Below.mono hb bl.size)
            have hS := hS2
            clear hS2 hb
            try simp only [Act.put, List.setIfInBounds_toArray, List.set_cons_zero, List.set_cons_succ]
            have hR := Lib.hid hR0
            clear hR0
            simp only [wpTr, List.drop_succ_cons, List.drop_zero]
            go_wp2_with fail
            refine NoPanic.normal ?_
            go_wp2_with fail
            go_roundw
            case rel => exact ⟨i + 1, R, cr, by omega, by go_num, rfl, hcr, hR, t2, bl⟩
            case measure => simp [intOf]; omega
        · obtain rfl : i = t.size := by omega
          have HW := Lib.hid (with_any A c (numAt t t.size) false wr hr.out (by omega))
          go_wp2_with fail
          refine (HW.out).mono ?_
          rintro e W1 ⟨rfl, hb⟩
          have t2 := t2.below hb t2.lt
          have bl := bl.trans (Below.mono hb bl.size)
          clear hb
          try simp only [ptr, Act.put, List.setIfInBounds_toArray, List.set_cons_zero, List.set_cons_succ]
          have fr2 := t2.free
          obtain ⟨z2_0, z2_1⟩ := t2.cells2
          go_wp2_with fail
          clear fr2 z2_0 z2_1
          have t2 := t2.set2 (.bool (sg (sgnd false (numAt t t.size)))) (.string (mg (sgnd false (numAt t t.size))))
          have bl := (below_set (below_set bl (show w.heap.size ≤ w.heap.size by omega) 0 (.bool (sg (sgnd false (numAt t t.size))))) (show w.heap.size ≤ w.heap.size by omega) 1 (.string (mg (sgnd false (numAt t t.size)))))
          generalize World.setCell (World.setCell W1 _ _) _ _ = W2 at t2 bl ⊢
          obtain ⟨r2_0, r2_1⟩ := t2.cells2
          exact bodyPost_ret (v := .tuple #[vI (sgnd false (numAt t t.size)), .int .i64 0]) (by simp [results, Tryd.results30, go_sem, r2_0, r2_1]) rfl (⟨rfl, bl⟩)

/-- what Parse answers -/
def parseN (t : ByteArray) (neg : Bool) (e : Int) : Int := if e = 0 then sgnd neg (numAt t t.size) else 0
open Classical in
noncomputable def parseE (t : ByteArray) (neg : Bool) : Int := if shapeB neg t = true ∧ AllD t then (if t.size ≤ 400 then 0 else 3) else 4

theorem Parse_any (s t : ByteArray) (neg : Bool) (w : World) (hsz : t.size ≤ 1000000000)
    (HC : ∀ W, Calls Tryd.prog 58 #[.string s, .string ⟨#[45]⟩] W (fun e w' => e = .returned (.tuple #[.string t, .bool neg]) ∧ Below W.heap.size W w')) :
    Calls Tryd.prog 30 #[.string s] w (RetIE (parseN t neg (parseE t neg)) (parseE t neg) w) := by
  cases hs : shapeB neg t with
  | false =>
    have e : parseE t neg = 4 := by unfold parseE; rw [if_neg (by rw [hs]; simp)]
    rw [e, parseN, if_neg (by decide)]
    exact Parse_syn s t neg w hs HC
  | true =>
    have hs' := hs
    unfold shapeB at hs'
    have h0 : 0 < t.size := by
      by_cases h0 : 0 < t.size
      · exact h0
      · rw [dif_neg h0] at hs'; cases hs'
    rw [dif_pos h0] at hs'
    by_cases hd : AllD t
    · by_cases hl : t.size ≤ 400
      · have e : parseE t neg = 0 := by unfold parseE; rw [if_pos ⟨hs, hd⟩, if_pos hl]
        rw [e, parseN, if_pos rfl]
        by_cases h48 : t[0].toNat = 48
        · have h1 : ¬ 1 < t.size := by intro h1; simp [h48, h1] at hs'
          obtain rfl : neg = false := by
            cases neg
            · rfl
            · simp [h48] at hs'
          exact Parse_okb s t false w h0 h48 h1 hd hl HC
        · exact Parse_oka s t neg w h0 h48 hd hl HC
      · have e : parseE t neg = 3 := by unfold parseE; rw [if_pos ⟨hs, hd⟩, if_neg hl]
        rw [e, parseN, if_neg (by decide)]
        refine Parse_long s t neg w h0 ?_ hd (by omega) hsz HC
        intro h48
        have h1 : 1 < t.size := by omega
        simp [h48, h1] at hs'
    · have e : parseE t neg = 4 := by unfold parseE; rw [if_neg (fun h => hd h.2)]
      rw [e, parseN, if_neg (by decide)]
      refine Parse_bad s t neg w h0 ?_ hd hsz HC
      intro h48
      have h1 : ¬ 1 < t.size := by intro h1; simp [h48, h1] at hs'
      refine hd (fun j hj => ?_)
      obtain rfl : j = 0 := by omega
      omega
end Go.Proofs.YtboolbcckfldaaaDoor
