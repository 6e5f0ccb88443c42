/- Digits of three bytes. -/
import Derived.Test.YtboolbcckfldaaaDoorNumD
namespace Go.Proofs.YtboolbcckfldaaaDoor

/-- the three bytes of each digit, the least significant ones first -/
def le3 (xs : List Nat) : List Nat := xs.flatMap fun x => [x % 256, x / 256 % 256, x / 65536 % 256]
theorem le3_cons (x : Nat) (xs : List Nat) : le3 (x :: xs) = [x % 256, x / 256 % 256, x / 65536 % 256] ++ le3 xs := by simp [le3]
theorem le3_Dig (xs : List Nat) : Dig 256 (le3 xs) := fun y hy => by
  simp only [le3, List.mem_flatMap, List.mem_cons, List.not_mem_nil, or_false] at hy
  obtain ⟨x, _, h⟩ := hy
  omega
theorem val_le3 (xs : List Nat) (h : Dig 16777216 xs) : val 256 (le3 xs) = val 16777216 xs := by
  induction xs with
  | nil => rfl
  | cons x xs ih =>
    have h1 := ih h.tail
    have h2 := h.head
    rw [le3_cons, val_append, h1]
    simp only [val, List.length_cons, List.length_nil]
    omega
theorem le3_length (xs : List Nat) : (le3 xs).length = 3 * xs.length := by
  induction xs with
  | nil => rfl
  | cons x xs ih => rw [le3_cons, List.length_append, ih]; simp; omega
/-- the byte at place j -/
def by3 (xs : List Nat) (j : Nat) : Nat := gd xs (j / 3) / 2 ^ (8 * (j % 3)) % 256
theorem gd_le3 (xs : List Nat) (j : Nat) : gd (le3 xs) j = by3 xs j := by
  unfold by3
  induction xs generalizing j with
  | nil =>
    have : ∀ k, gd [] k = 0 := fun k => gd_behind (by simp)
    rw [show le3 [] = [] from rfl, this, this, Nat.zero_div]
  | cons x xs ih =>
    rw [le3_cons]
    by_cases h : j < 3
    · rw [gd_append_left (by simpa using h)]
      have hj : j = 0 ∨ j = 1 ∨ j = 2 := by omega
      rcases hj with rfl | rfl | rfl <;> simp [gd]
    · rw [gd_append_right (by simpa using Nat.le_of_not_lt h)]
      simp only [List.length_cons, List.length_nil]
      rw [ih]
      obtain ⟨m, rfl⟩ : ∃ m, j = m + 3 := ⟨j - 3, by omega⟩
      rw [show m + 3 - (0 + 1 + 1 + 1) = m from by omega, show (m + 3) / 3 = m / 3 + 1 from by omega, show (m + 3) % 3 = m % 3 from by omega]
      rfl
theorem by3_lt (xs : List Nat) (j : Nat) : by3 xs j < 256 := Nat.mod_lt _ (by decide)

/-- a list that holds the bytes in turned order is the reversed list of bytes -/
theorem rev_le3 (xs zs : List Nat) (hl : zs.length = 3 * xs.length) (h : ∀ j, j < 3 * xs.length → gd zs (3 * xs.length - 1 - j) = by3 xs j) : zs = (le3 xs).reverse := by
  apply ext_gd
  · rw [List.length_reverse, le3_length, hl]
  · intro i hi
    rw [hl] at hi
    have h1 := h (3 * xs.length - 1 - i) (by omega)
    rw [show 3 * xs.length - 1 - (3 * xs.length - 1 - i) = i from by omega] at h1
    have hL := le3_length xs
    rw [h1, ← gd_le3]
    have e1 : gd (le3 xs).reverse i = (le3 xs).reverse[i]'(by rw [List.length_reverse, hL]; exact hi) := gd_get _
    have e2 : gd (le3 xs) (3 * xs.length - 1 - i) = (le3 xs)[3 * xs.length - 1 - i]'(by omega) := gd_get _
    rw [e1, e2, List.getElem_reverse]
    congr 1
    omega

theorem trim_le3 (xs : List Nat) (h : Dig 16777216 xs) : ((le3 xs).reverse.dropWhile (· == 0)) = (digs 256 (val 16777216 xs)).reverse := by
  rw [dropWhile_reverse, ← val_le3 xs h, digs_val (by decide) (le3_Dig xs)]

theorem dropWhile_take_zero (l : List Nat) (p : Nat) (h : ∀ i, i < p → gd l i = 0) (hp : p ≤ l.length) : l.dropWhile (· == 0) = (l.drop p).dropWhile (· == 0) := by
  induction p generalizing l with
  | zero => rfl
  | succ p ih =>
    cases l with
    | nil => rfl
    | cons x l =>
      have h0 := h 0 (by omega)
      have hx : x = 0 := h0
      rw [List.dropWhile_cons, if_pos (by simp [hx]), List.drop_succ_cons]
      exact ih l (fun i hi => h (i + 1) (by omega)) (by simpa using hp)
theorem dropWhile_stop (l : List Nat) (h : l = [] ∨ gd l 0 ≠ 0) : l.dropWhile (· == 0) = l := by
  cases l with
  | nil => rfl
  | cons x l =>
    rcases h with h | h
    · cases h
    · have hx : x ≠ 0 := h
      rw [List.dropWhile_cons, if_neg (by simpa using hx)]
end Go.Proofs.YtboolbcckfldaaaDoor
