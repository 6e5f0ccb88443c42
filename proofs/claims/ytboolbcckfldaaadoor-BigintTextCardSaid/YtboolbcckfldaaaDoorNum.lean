/- Natural numbers and their digits to a base: lists of digits with the least one first, trimming, values. Plain mathematics, no program. -/
namespace Go.Proofs.YtboolbcckfldaaaDoor

/-- the value of digits to the base B, the least one first -/
def val (B : Nat) : List Nat → Nat
  | [] => 0
  | x :: xs => x + B * val B xs

/-- the digit at a place, 0 behind the end -/
def gd (xs : List Nat) (i : Nat) : Nat := xs.getD i 0
theorem gd_eq (xs : List Nat) (i : Nat) : gd xs i = xs.getD i 0 := rfl

def Dig (B : Nat) (xs : List Nat) : Prop := ∀ x, x ∈ xs → x < B

/-- zeros at the end are taken away -/
def trimL : List Nat → List Nat
  | [] => []
  | x :: xs => if trimL xs = [] then (if x = 0 then [] else [x]) else x :: trimL xs

def digsF (B : Nat) : Nat → Nat → List Nat
  | 0, _ => []
  | f + 1, n => if n = 0 then [] else n % B :: digsF B f (n / B)
def digs (B n : Nat) : List Nat := digsF B n n

theorem val_append (B : Nat) (xs ys : List Nat) : val B (xs ++ ys) = val B xs + B ^ xs.length * val B ys := by
  induction xs with
  | nil => simp [val]
  | cons x xs ih => simp only [List.cons_append, val, ih, List.length_cons, Nat.pow_succ]; rw [Nat.mul_add, Nat.add_assoc]; congr 2; rw [← Nat.mul_assoc]; congr 1; exact Nat.mul_comm _ _

theorem Dig.tail {B x : Nat} {xs : List Nat} (h : Dig B (x :: xs)) : Dig B xs := fun y hy => h y (List.mem_cons_of_mem _ hy)
theorem Dig.head {B x : Nat} {xs : List Nat} (h : Dig B (x :: xs)) : x < B := h x (List.mem_cons_self)
theorem Dig.nil (B : Nat) : Dig B [] := fun _ h => by cases h
theorem Dig.cons {B x : Nat} {xs : List Nat} (h : x < B) (h' : Dig B xs) : Dig B (x :: xs) := fun y hy => by
  rcases List.mem_cons.1 hy with e | e
  · exact e ▸ h
  · exact h' y e
theorem Dig.append {B : Nat} {xs ys : List Nat} (h : Dig B xs) (h' : Dig B ys) : Dig B (xs ++ ys) := fun y hy => (List.mem_append.1 hy).elim (h y) (h' y)
theorem Dig.take {B : Nat} {xs : List Nat} (h : Dig B xs) (k : Nat) : Dig B (xs.take k) := fun y hy => h y (List.mem_of_mem_take hy)
theorem Dig.drop {B : Nat} {xs : List Nat} (h : Dig B xs) (k : Nat) : Dig B (xs.drop k) := fun y hy => h y (List.mem_of_mem_drop hy)
theorem Dig.replicate {B : Nat} (h : 0 < B) (k : Nat) : Dig B (List.replicate k 0) := fun y hy => by rw [List.eq_of_mem_replicate hy]; exact h
theorem Dig.gd {B : Nat} {xs : List Nat} (h : Dig B xs) (hB : 0 < B) (i : Nat) : gd xs i < B := by
  rw [gd_eq, List.getD_eq_getElem?_getD]
  by_cases hi : i < xs.length
  · simp only [List.getElem?_eq_getElem hi, Option.getD_some]; exact h _ (List.getElem_mem hi)
  · simp only [List.getElem?_eq_none (Nat.le_of_not_lt hi), Option.getD_none]; exact hB
theorem Dig.set {B : Nat} {xs : List Nat} (h : Dig B xs) (i x : Nat) (hx : x < B) : Dig B (xs.set i x) := fun y hy => by
  rcases List.mem_or_eq_of_mem_set hy with e | e
  · exact h y e
  · exact e ▸ hx

theorem val_lt {B : Nat} {xs : List Nat} (h : Dig B xs) : val B xs < B ^ xs.length := by
  induction xs with
  | nil => simp [val]
  | cons x xs ih =>
    have h1 := ih h.tail
    have h2 := h.head
    simp only [val, List.length_cons, Nat.pow_succ]
    have : B * (val B xs + 1) ≤ B * B ^ xs.length := Nat.mul_le_mul_left _ h1
    rw [Nat.mul_comm (B ^ xs.length) B]
    rw [Nat.mul_add] at this
    omega

theorem trimL_nil_iff (xs : List Nat) : trimL xs = [] ↔ ∀ x, x ∈ xs → x = 0 := by
  induction xs with
  | nil => simp [trimL]
  | cons x xs ih =>
    simp only [trimL, List.mem_cons, forall_eq_or_imp]
    by_cases h : trimL xs = []
    · rw [if_pos h]
      by_cases hx : x = 0
      · rw [if_pos hx]; exact ⟨fun _ => ⟨hx, ih.1 h⟩, fun _ => rfl⟩
      · simp [hx]
    · rw [if_neg h]
      simp only [reduceCtorEq, false_iff, not_and]
      exact fun _ hh => h (ih.2 hh)

theorem val_trimL (B : Nat) (xs : List Nat) : val B (trimL xs) = val B xs := by
  induction xs with
  | nil => rfl
  | cons x xs ih =>
    simp only [trimL]
    by_cases h : trimL xs = []
    · rw [if_pos h]
      rw [h] at ih
      simp only [val] at ih
      by_cases hx : x = 0
      · simp [hx, val, ← ih]
      · simp [hx, val, ← ih]
    · rw [if_neg h]; simp [val, ih]

theorem trimL_take (xs : List Nat) : trimL xs = xs.take (trimL xs).length := by
  induction xs with
  | nil => rfl
  | cons x xs ih =>
    simp only [trimL]
    by_cases h : trimL xs = []
    · rw [if_pos h]
      by_cases hx : x = 0 <;> simp [hx]
    · rw [if_neg h]; simp only [List.length_cons, List.take_succ_cons]; rw [← ih]

theorem trimL_length_le (xs : List Nat) : (trimL xs).length ≤ xs.length := by
  have h := congrArg List.length (trimL_take xs)
  rw [List.length_take] at h
  omega

theorem trimL_snoc_zero (xs : List Nat) : trimL (xs ++ [0]) = trimL xs := by
  induction xs with
  | nil => simp [trimL]
  | cons x xs ih => simp only [List.cons_append, trimL, ih]

theorem trimL_snoc_pos (xs : List Nat) (x : Nat) (h : x ≠ 0) : trimL (xs ++ [x]) = xs ++ [x] := by
  induction xs with
  | nil => simp [trimL, h]
  | cons y xs ih => simp only [List.cons_append, trimL, ih]; rw [if_neg (by simp)]

theorem Dig.trimL {B : Nat} {xs : List Nat} (h : Dig B xs) : Dig B (trimL xs) := by rw [trimL_take]; exact h.take _

theorem trimL_idem (xs : List Nat) : trimL (trimL xs) = trimL xs := by
  induction xs with
  | nil => rfl
  | cons x xs ih =>
    simp only [trimL]
    by_cases h : trimL xs = []
    · rw [if_pos h]
      by_cases hx : x = 0
      · simp [hx, trimL]
      · simp [hx, trimL]
    · rw [if_neg h]; simp only [trimL, ih]; rw [if_neg h]

theorem digsF_zero (B f : Nat) : digsF B f 0 = [] := by cases f <;> simp [digsF]

theorem digsF_enough (B : Nat) (hB : 2 ≤ B) : ∀ f g n, n ≤ f → n ≤ g → digsF B f n = digsF B g n := by
  intro f
  induction f with
  | zero => intro g n h1 h2; have : n = 0 := by omega
            subst this; simp [digsF_zero]
  | succ f ih =>
    intro g n h1 h2
    cases g with
    | zero => have : n = 0 := by omega
              subst this; simp [digsF_zero]
    | succ g =>
      simp only [digsF]
      by_cases h : n = 0
      · simp [h]
      · rw [if_neg h, if_neg h]
        have : n / B < n := Nat.div_lt_self (by omega) (by omega)
        rw [ih g (n / B) (by omega) (by omega)]

theorem digs_zero (B : Nat) : digs B 0 = [] := by simp [digs, digsF]
theorem digs_step {B n : Nat} (hB : 2 ≤ B) (h : n ≠ 0) : digs B n = n % B :: digs B (n / B) := by
  unfold digs
  obtain ⟨m, rfl⟩ : ∃ m, n = m + 1 := ⟨n - 1, by omega⟩
  have hlt : (m + 1) / B < m + 1 := Nat.div_lt_self (by omega) (by omega)
  simp only [digsF]
  rw [if_neg (by omega), digsF_enough B hB m ((m+1)/B) ((m+1)/B) (by omega) (by omega)]

theorem digs_Dig {B : Nat} (hB : 2 ≤ B) (n : Nat) : Dig B (digs B n) := by
  induction n using Nat.strongRecOn with
  | _ n ih =>
    by_cases h : n = 0
    · subst h; rw [digs_zero]; exact Dig.nil B
    · rw [digs_step hB h]
      exact Dig.cons (Nat.mod_lt _ (by omega)) (ih _ (Nat.div_lt_self (by omega) (by omega)))

theorem val_digs {B : Nat} (hB : 2 ≤ B) (n : Nat) : val B (digs B n) = n := by
  induction n using Nat.strongRecOn with
  | _ n ih =>
    by_cases h : n = 0
    · subst h; rw [digs_zero]; rfl
    · rw [digs_step hB h]; simp only [val]
      rw [ih _ (Nat.div_lt_self (by omega) (by omega))]; exact Nat.mod_add_div n B

theorem digs_val {B : Nat} (hB : 2 ≤ B) {xs : List Nat} (h : Dig B xs) : digs B (val B xs) = trimL xs := by
  induction xs with
  | nil => simp [val, trimL, digs_zero]
  | cons x xs ih =>
    have h1 := ih h.tail
    have hx := h.head
    simp only [val, trimL]
    by_cases h0 : x + B * val B xs = 0
    · have hx0 : x = 0 := by omega
      have hv : val B xs = 0 := by
        rcases Nat.mul_eq_zero.1 (show B * val B xs = 0 by omega) with e | e
        · omega
        · exact e
      rw [hv, digs_zero] at h1
      simp [hx0, hv, digs_zero, ← h1]
    · rw [digs_step hB h0, Nat.add_mul_mod_self_left, Nat.mod_eq_of_lt hx, Nat.add_mul_div_left _ _ (by omega : 0 < B), Nat.div_eq_of_lt hx, Nat.zero_add, h1]
      by_cases ht : trimL xs = []
      · rw [if_pos ht, ht]
        have hv : val B xs = 0 := by rw [← val_trimL, ht]; rfl
        have hx0 : x ≠ 0 := by intro e; rw [e, hv] at h0; simp at h0
        rw [if_neg hx0]
      · rw [if_neg ht]

theorem digs_nil_iff {B : Nat} (hB : 2 ≤ B) (n : Nat) : digs B n = [] ↔ n = 0 := by
  constructor
  · intro h; rw [← val_digs hB n, h]; rfl
  · rintro rfl; exact digs_zero B

theorem trimL_digs {B : Nat} (hB : 2 ≤ B) (n : Nat) : trimL (digs B n) = digs B n := by
  have := digs_val hB (digs_Dig hB n)
  rw [val_digs hB] at this
  exact this.symm

theorem lt_pow_digs {B : Nat} (hB : 2 ≤ B) (n : Nat) : n < B ^ (digs B n).length := by
  have := val_lt (digs_Dig hB n)
  rwa [val_digs hB] at this

theorem digs_length_le {B : Nat} (hB : 2 ≤ B) {n k : Nat} (h : n < B ^ k) : (digs B n).length ≤ k := by
  induction k generalizing n with
  | zero => have : n = 0 := by simpa using h
            subst this; simp [digs_zero]
  | succ k ih =>
    by_cases h0 : n = 0
    · subst h0; simp [digs_zero]
    · rw [digs_step hB h0, List.length_cons]
      have : n / B < B ^ k := by
        rw [Nat.div_lt_iff_lt_mul (by omega)]; rwa [Nat.pow_succ] at h
      have := ih this
      omega

theorem pow_le_of_digs {B : Nat} (hB : 2 ≤ B) {n k : Nat} (h : k < (digs B n).length) : B ^ k ≤ n := by
  rcases Nat.lt_or_ge n (B ^ k) with h' | h'
  · have := digs_length_le hB h'; omega
  · exact h'

/-- the highest digit is not 0 -/
theorem digs_last {B : Nat} (hB : 2 ≤ B) (n : Nat) (h : n ≠ 0) : gd (digs B n) ((digs B n).length - 1) ≠ 0 := by
  rw [gd_eq]
  induction n using Nat.strongRecOn with
  | _ n ih =>
    rw [digs_step hB h]
    by_cases h1 : n / B = 0
    · rw [h1, digs_zero]; simp only [List.length_cons, List.length_nil, Nat.zero_add, Nat.sub_self, List.getD_cons_zero]
      intro e
      have := Nat.mod_add_div n B
      rw [e, h1] at this; omega
    · have := ih _ (Nat.div_lt_self (by omega) (by omega)) h1
      have hne : digs B (n / B) ≠ [] := fun e => h1 ((digs_nil_iff hB _).1 e)
      have hl : 0 < (digs B (n / B)).length := List.length_pos_iff.2 hne
      obtain ⟨m, hm⟩ : ∃ m, (digs B (n/B)).length = m + 1 := ⟨_, (Nat.sub_add_cancel hl).symm⟩
      rw [hm] at this
      simp only [List.length_cons, hm, Nat.add_sub_cancel] at this ⊢
      simpa using this

theorem val_take_succ (B : Nat) (xs : List Nat) (k : Nat) (h : k < xs.length) : val B (xs.take (k + 1)) = val B (xs.take k) + B ^ k * gd xs k := by
  rw [gd_eq]
  rw [List.take_succ_eq_append_getElem h, val_append, List.length_take, Nat.min_eq_left (Nat.le_of_lt h)]
  simp [val, List.getD_eq_getElem?_getD, List.getElem?_eq_getElem h]

theorem val_drop (B : Nat) (xs : List Nat) (k : Nat) (h : k < xs.length) : val B (xs.drop k) = gd xs k + B * val B (xs.drop (k + 1)) := by
  rw [gd_eq]
  rw [List.drop_eq_getElem_cons h]
  simp [val, List.getD_eq_getElem?_getD, List.getElem?_eq_getElem h]

theorem val_split (B : Nat) (xs : List Nat) (k : Nat) (h : k ≤ xs.length) : val B xs = val B (xs.take k) + B ^ k * val B (xs.drop k) := by
  conv => lhs; rw [← List.take_append_drop k xs]
  rw [val_append, List.length_take, Nat.min_eq_left h]

theorem val_replicate (B k : Nat) : val B (List.replicate k 0) = 0 := by
  induction k with
  | zero => rfl
  | succ k ih => simp [List.replicate_succ, val, ih]

theorem val_digs_drop {B : Nat} (hB : 2 ≤ B) (n k : Nat) : val B ((digs B n).drop k) = n / B ^ k := by
  rcases Nat.lt_or_ge k (digs B n).length with h | h
  · have h1 := val_split B (digs B n) k (Nat.le_of_lt h)
    rw [val_digs hB] at h1
    have h2 : val B ((digs B n).take k) < B ^ k := by
      have := val_lt ((digs_Dig hB n).take k)
      rwa [List.length_take, Nat.min_eq_left (Nat.le_of_lt h)] at this
    have : n / B ^ k = (val B ((digs B n).take k) + B ^ k * val B ((digs B n).drop k)) / B ^ k := by rw [← h1]
    rw [this, Nat.add_mul_div_left _ _ (by omega), Nat.div_eq_of_lt h2]; omega
  · rw [List.drop_eq_nil_of_le h]
    have := lt_pow_digs hB n
    have h3 : B ^ (digs B n).length ≤ B ^ k := Nat.pow_le_pow_right (by omega) h
    rw [Nat.div_eq_of_lt (by omega)]; rfl

theorem val_digs_take {B : Nat} (hB : 2 ≤ B) (n k : Nat) : val B ((digs B n).take k) = n % B ^ k := by
  rcases Nat.lt_or_ge k (digs B n).length with h | h
  · have h1 := val_split B (digs B n) k (Nat.le_of_lt h)
    rw [val_digs hB] at h1
    have h2 : val B ((digs B n).take k) < B ^ k := by
      have := val_lt ((digs_Dig hB n).take k)
      rwa [List.length_take, Nat.min_eq_left (Nat.le_of_lt h)] at this
    have : n % B ^ k = (val B ((digs B n).take k) + B ^ k * val B ((digs B n).drop k)) % B ^ k := by rw [← h1]
    rw [this, Nat.add_mul_mod_self_left, Nat.mod_eq_of_lt h2]
  · rw [List.take_of_length_le h, val_digs hB]
    have := lt_pow_digs hB n
    have h3 : B ^ (digs B n).length ≤ B ^ k := Nat.pow_le_pow_right (by omega) h
    rw [Nat.mod_eq_of_lt (by omega)]

theorem digs_gd {B : Nat} (hB : 2 ≤ B) (n k : Nat) : gd (digs B n) k = n / B ^ k % B := by
  rcases Nat.lt_or_ge k (digs B n).length with h | h
  · have h1 := val_drop B (digs B n) k h
    rw [val_digs_drop hB] at h1
    rw [h1, Nat.add_mul_mod_self_left, Nat.mod_eq_of_lt ((digs_Dig hB n).gd (by omega) k)]
  · rw [gd_eq, List.getD_eq_getElem?_getD, List.getElem?_eq_none h]
    have := lt_pow_digs hB n
    have h3 : B ^ (digs B n).length ≤ B ^ k := Nat.pow_le_pow_right (by omega) h
    rw [Nat.div_eq_of_lt (by omega)]; simp

theorem gd_take {xs : List Nat} {n i : Nat} (h : i < n) : gd (xs.take n) i = gd xs i := by
  simp [gd, List.getD_eq_getElem?_getD, h]
theorem gd_drop (xs : List Nat) (n i : Nat) : gd (xs.drop n) i = gd xs (n + i) := by
  simp [gd, List.getD_eq_getElem?_getD]
theorem gd_set_eq {xs : List Nat} {i : Nat} (x : Nat) (h : i < xs.length) : gd (xs.set i x) i = x := by
  simp [gd, List.getD_eq_getElem?_getD, h]
theorem gd_set_ne (xs : List Nat) {i j : Nat} (x : Nat) (h : i ≠ j) : gd (xs.set i x) j = gd xs j := by
  simp [gd, List.getD_eq_getElem?_getD, List.getElem?_set_ne h]
theorem gd_behind {xs : List Nat} {i : Nat} (h : xs.length ≤ i) : gd xs i = 0 := by
  simp [gd, List.getD_eq_getElem?_getD, List.getElem?_eq_none h]
theorem gd_append_left {xs ys : List Nat} {i : Nat} (h : i < xs.length) : gd (xs ++ ys) i = gd xs i := by
  simp [gd, List.getD_eq_getElem?_getD, List.getElem?_append_left h]
theorem gd_append_right {xs ys : List Nat} {i : Nat} (h : xs.length ≤ i) : gd (xs ++ ys) i = gd ys (i - xs.length) := by
  simp [gd, List.getD_eq_getElem?_getD, List.getElem?_append_right h]
theorem gd_replicate (k i : Nat) : gd (List.replicate k 0) i = 0 := by
  simp only [gd, List.getD_eq_getElem?_getD, List.getElem?_replicate]
  split <;> rfl
theorem gd_get {xs : List Nat} {i : Nat} (h : i < xs.length) : gd xs i = xs[i] := by
  simp [gd, List.getD_eq_getElem?_getD, h]
theorem ext_gd {xs ys : List Nat} (hl : xs.length = ys.length) (h : ∀ i, i < xs.length → gd xs i = gd ys i) : xs = ys := by
  apply List.ext_getElem hl
  intro i h1 h2
  have := h i h1
  rwa [gd_get h1, gd_get h2] at this

theorem val_take_succ' (B : Nat) (xs : List Nat) (k : Nat) : val B (xs.take (k + 1)) = val B (xs.take k) + B ^ k * gd xs k := by
  by_cases h : k < xs.length
  · exact val_take_succ B xs k h
  · rw [gd_behind (Nat.le_of_not_lt h), List.take_of_length_le (by omega), List.take_of_length_le (by omega)]; simp
theorem take_set_succ {xs : List Nat} {k : Nat} (x : Nat) (h : k < xs.length) : (xs.set k x).take (k + 1) = xs.take k ++ [x] := by
  rw [List.take_succ_eq_append_getElem (by simpa using h)]
  simp [List.take_set_of_le]
theorem val_set_take (B : Nat) {xs : List Nat} {k : Nat} (x : Nat) (h : k < xs.length) : val B ((xs.set k x).take (k + 1)) = val B (xs.take k) + B ^ k * x := by
  rw [take_set_succ x h, val_append, List.length_take, Nat.min_eq_left (Nat.le_of_lt h)]; simp [val]
theorem add_arith (M P cy x y s c' X Y Z : Nat) (h : Z + P * cy = X + Y) (h2 : s + M * c' = x + y + cy) : Z + P * s + P * M * c' = (X + P * x) + (Y + P * y) := by
  have := congrArg (P * ·) h2
  simp only [Nat.mul_add, ← Nat.mul_assoc] at this
  omega
theorem add_step (M : Nat) (zs xs ys : List Nat) (k cy s c' : Nat) (hk : k < zs.length) (h : val M (zs.take k) + M ^ k * cy = val M (xs.take k) + val M (ys.take k)) (h2 : s + M * c' = gd xs k + gd ys k + cy) :
    val M ((zs.set k s).take (k + 1)) + M ^ (k + 1) * c' = val M (xs.take (k + 1)) + val M (ys.take (k + 1)) := by
  rw [val_set_take M s hk, val_take_succ', val_take_succ', Nat.pow_succ]
  exact add_arith M (M ^ k) cy _ _ s c' _ _ _ h h2
/-- the end of an addition: the last digit is the carry -/
theorem add_end {M : Nat} (hM : 2 ≤ M) (zs xs ys : List Nat) (n cy : Nat) (hl : zs.length = n + 1) (hx : xs.length ≤ n) (hy : ys.length ≤ n) (hd : Dig M zs) (hc : cy < M) (h : val M (zs.take n) + M ^ n * cy = val M (xs.take n) + val M (ys.take n)) :
    trimL (zs.set n cy) = digs M (val M xs + val M ys) := by
  have h1 : val M (zs.set n cy) = val M xs + val M ys := by
    have h2 := val_set_take M (xs := zs) (k := n) cy (by omega)
    rw [List.take_of_length_le (by simp; omega)] at h2
    rw [h2, h, List.take_of_length_le hx, List.take_of_length_le hy]
  rw [← h1]
  exact (digs_val hM (hd.set n cy hc)).symm

end Go.Proofs.YtboolbcckfldaaaDoor

/- More on digits: what one changed digit does to the value; bytes and words; comparing from the top; borrowing. Plain mathematics. -/
namespace Go.Proofs.YtboolbcckfldaaaDoor
set_option linter.unusedVariables false

theorem val_set (B : Nat) (xs : List Nat) (j x : Nat) (h : j < xs.length) : val B (xs.set j x) + B ^ j * gd xs j = val B xs + B ^ j * x := by
  induction xs generalizing j with
  | nil => simp at h
  | cons y ys ih =>
    cases j with
    | zero => simp [val, gd]; omega
    | succ j =>
      have := ih j (by simpa using h)
      simp only [List.set_cons_succ, val]
      have e : gd (y :: ys) (j + 1) = gd ys j := by simp [gd]
      rw [e, Nat.pow_succ]
      have h2 := congrArg (B * ·) this
      simp only [Nat.mul_add] at h2
      have e1 : B ^ j * B * gd ys j = B * (B ^ j * gd ys j) := by rw [Nat.mul_comm (B ^ j) B, Nat.mul_assoc]
      have e2 : B ^ j * B * x = B * (B ^ j * x) := by rw [Nat.mul_comm (B ^ j) B, Nat.mul_assoc]
      rw [e1, e2]; omega

theorem gd_le_val (B : Nat) (xs : List Nat) (j : Nat) : B ^ j * gd xs j ≤ val B xs := by
  induction xs generalizing j with
  | nil => simp [gd]
  | cons y ys ih =>
    cases j with
    | zero => simp [val, gd]
    | succ j =>
      have e : gd (y :: ys) (j + 1) = gd ys j := by simp [gd]
      rw [e, Nat.pow_succ, Nat.mul_comm (B ^ j) B, Nat.mul_assoc]
      have := Nat.mul_le_mul_left B (ih j)
      simp only [val]; omega

/-- a string's bytes, the last one first -/
def rb (s : ByteArray) : List Nat := (s.data.toList.map UInt8.toNat).reverse
/-- the number with these bytes -/
def sv (s : ByteArray) : Nat := val 256 (rb s)
theorem rb_length (s : ByteArray) : (rb s).length = s.size := by
  simp only [rb, List.length_reverse, List.length_map, Array.length_toList]; rfl
theorem rb_Dig (s : ByteArray) : Dig 256 (rb s) := fun x hx => by
  simp only [rb, List.mem_reverse, List.mem_map] at hx
  obtain ⟨c, _, rfl⟩ := hx
  exact c.toNat_lt
theorem gd_rb (s : ByteArray) (k : Nat) (h : k < s.size) : gd (rb s) k = (s[s.size - 1 - k]'(by omega)).toNat := by
  rw [gd_get (by rw [rb_length]; exact h)]
  simp only [rb, List.getElem_reverse, List.getElem_map, List.length_map]
  congr 1

/-- the bytes of a word, put in one after the other -/
theorem of_digit {M : Nat} (zs L : List Nat) (j r : Nat) (hM : M = 256 ^ 4) (hv : val M zs = val 256 (L.take (4 * j + r))) (hd : Dig 256 L) : gd zs j < 256 ^ r := by
  have h1 := gd_le_val M zs j
  have h2 := val_lt (hd.take (4 * j + r))
  have h3 : val 256 (L.take (4 * j + r)) < 256 ^ (4 * j + r) := Nat.lt_of_lt_of_le h2 (Nat.pow_le_pow_right (by decide) (by rw [List.length_take]; omega))
  rw [Nat.pow_add, Nat.pow_mul, ← hM] at h3
  have h4 : M ^ j * gd zs j < M ^ j * 256 ^ r := by omega
  exact Nat.lt_of_mul_lt_mul_left h4

theorem of_step {M : Nat} (zs L : List Nat) (j r : Nat) (hM : M = 256 ^ 4) (hj : j < zs.length) (hv : val M zs = val 256 (L.take (4 * j + r))) :
    val M (zs.set j (gd zs j + gd L (4 * j + r) * 256 ^ r)) = val 256 (L.take (4 * j + r + 1)) := by
  have h1 := val_set M zs j (gd zs j + gd L (4 * j + r) * 256 ^ r) hj
  rw [val_take_succ', Nat.pow_add, Nat.pow_mul, ← hM, ← hv]
  rw [Nat.mul_add] at h1
  have e : M ^ j * (gd L (4 * j + r) * 256 ^ r) = M ^ j * 256 ^ r * gd L (4 * j + r) := by
    rw [Nat.mul_comm (gd L (4 * j + r)), Nat.mul_assoc]
  rw [e] at h1; omega

/-- two numbers of one length are compared from the top -/
theorem val_top_lt {B : Nat} {xs ys : List Nat} {k : Nat} (dx : Dig B xs) (dy : Dig B ys) (hk : k < xs.length) (hl : xs.length = ys.length) (he : val B (xs.drop (k + 1)) = val B (ys.drop (k + 1))) (h : gd xs k < gd ys k) : val B xs < val B ys := by
  rw [val_split B xs k (Nat.le_of_lt hk), val_split B ys k (by omega), val_drop B xs k hk, val_drop B ys k (by omega), he]
  have h1 := val_lt (dx.take k)
  rw [List.length_take, Nat.min_eq_left (Nat.le_of_lt hk)] at h1
  have h2 : B ^ k * (gd xs k + 1) ≤ B ^ k * gd ys k := Nat.mul_le_mul_left _ h
  simp only [Nat.mul_add] at h2 ⊢
  omega

theorem val_drop_eq {B : Nat} {xs ys : List Nat} {k : Nat} (hk : k < xs.length) (hl : xs.length = ys.length) (he : val B (xs.drop (k + 1)) = val B (ys.drop (k + 1))) (h : gd xs k = gd ys k) : val B (xs.drop k) = val B (ys.drop k) := by
  rw [val_drop B xs k hk, val_drop B ys k (by omega), he, h]

theorem digs_len_lt {B : Nat} (hB : 2 ≤ B) {x y : Nat} (h : (digs B x).length < (digs B y).length) : x < y := by
  have h1 := lt_pow_digs hB x
  have h2 := pow_le_of_digs hB h
  omega

/-- a digit of a difference -/
theorem less_arith (M P b x y s b' X Y Z : Nat) (h : Z + Y = X + P * b) (h2 : s + y + b = x + M * b') : Z + P * s + (Y + P * y) = (X + P * x) + P * M * b' := by
  have := congrArg (P * ·) h2
  simp only [Nat.mul_add, ← Nat.mul_assoc] at this
  omega
theorem less_step (M : Nat) (zs xs ys : List Nat) (k b s b' : Nat) (hk : k < zs.length) (h : val M (zs.take k) + val M (ys.take k) = val M (xs.take k) + M ^ k * b) (h2 : s + gd ys k + b = gd xs k + M * b') :
    val M ((zs.set k s).take (k + 1)) + val M (ys.take (k + 1)) = val M (xs.take (k + 1)) + M ^ (k + 1) * b' := by
  rw [val_set_take M s hk, val_take_succ', val_take_succ', Nat.pow_succ]
  exact less_arith M (M ^ k) b _ _ s b' _ _ _ h h2
theorem less_end {M : Nat} (hM : 2 ≤ M) (zs xs ys : List Nat) (b : Nat) (hl : zs.length = xs.length) (hy : ys.length ≤ xs.length) (hd : Dig M zs) (hle : val M ys ≤ val M xs) (hb : b ≤ 1) (h : val M (zs.take xs.length) + val M (ys.take xs.length) = val M (xs.take xs.length) + M ^ xs.length * b) :
    trimL zs = digs M (val M xs - val M ys) := by
  rw [List.take_of_length_le (by omega), List.take_of_length_le hy, List.take_of_length_le (Nat.le_refl _)] at h
  have h1 := val_lt hd
  rw [hl] at h1
  have hb0 : b = 0 := by
    rcases Nat.lt_or_ge 0 b with h3 | h3
    · obtain rfl : b = 1 := by omega
      omega
    · omega
  subst hb0
  have : val M zs = val M xs - val M ys := by omega
  rw [← this]; exact (digs_val hM hd).symm

/-- a digit of a quotient by one digit: from the top -/
theorem small_step (M d : Nat) (hd : 0 < d) (xs zs : List Nat) (k r : Nat) (hk : k < xs.length) (hl : zs.length = xs.length) (h : val M (xs.drop (k + 1)) = d * val M (zs.drop (k + 1)) + r) :
    val M (xs.drop k) = d * val M ((zs.set k ((r * M + gd xs k) / d)).drop k) + (r * M + gd xs k) % d := by
  rw [val_drop M xs k hk, val_drop M _ k (by simp; omega), gd_set_eq _ (by omega), List.drop_set_of_lt (by omega), h]
  have h1 := Nat.div_add_mod (r * M + gd xs k) d
  rw [Nat.mul_add, Nat.mul_add]
  have e1 : M * (d * val M (zs.drop (k + 1))) = d * (M * val M (zs.drop (k + 1))) := Nat.mul_left_comm _ _ _
  have e2 : M * r = r * M := Nat.mul_comm _ _
  omega

theorem drop_set_self_lt {xs : List Nat} {k j x : Nat} (h : k < j) : (xs.set k x).drop j = xs.drop j := List.drop_set_of_lt h

end Go.Proofs.YtboolbcckfldaaaDoor

/- Multiplying and shifting digits. Plain mathematics. -/
namespace Go.Proofs.YtboolbcckfldaaaDoor
set_option linter.unusedVariables false

/-- a digit gets something more, with a carry -/
theorem digit_add (M : Nat) (zs : List Nat) (j s c e : Nat) (hj : j < zs.length) (h : s + M * c = gd zs j + e) : val M (zs.set j s) + M ^ (j + 1) * c = val M zs + M ^ j * e := by
  have h1 := val_set M zs j s hj
  have h2 := congrArg (M ^ j * ·) h
  simp only [Nat.mul_add, ← Nat.mul_assoc] at h2
  rw [Nat.pow_succ]
  omega

/-- a carry lies within the digits -/
theorem carry_in {M : Nat} (hM : 2 ≤ M) {z T n i : Nat} (h : z + M ^ i * 1 = T) (hT : T < M ^ n) : i < n := by
  rcases Nat.lt_or_ge i n with h' | h'
  · exact h'
  · have : M ^ n ≤ M ^ i := Nat.pow_le_pow_right (by omega) h'
    omega

theorem pow_pos' {M : Nat} (hM : 2 ≤ M) (n : Nat) : 0 < M ^ n := Nat.pow_pos (by omega)

theorem put_start (M : Nat) (zs : List Nat) (a p s1 c1 s2 c2 : Nat) (ha : a + 1 < zs.length) (h1 : s1 + M * c1 = gd zs a + p % M) (h2 : s2 + M * c2 = gd zs (a + 1) + p / M + c1) :
    val M ((zs.set a s1).set (a + 1) s2) + M ^ (a + 1 + 1) * c2 = val M zs + M ^ a * p := by
  have e1 := digit_add M zs a s1 c1 (p % M) (by omega) h1
  have e2 := digit_add M (zs.set a s1) (a + 1) s2 c2 (p / M + c1) (by rw [List.length_set]; exact ha) (by rw [gd_set_ne _ _ (by omega)]; omega)
  rw [e2, Nat.mul_add]
  have e3 := Nat.mod_add_div (p) M
  have e4 := congrArg (M ^ a * ·) e3
  simp only [Nat.mul_add, ← Nat.mul_assoc] at e4
  have e5 : M ^ (a + 1) * (p / M) = M ^ a * M * (p / M) := by rw [Nat.pow_succ]
  omega

/-- the rows of a product -/
theorem mul_row (M i k P Yk x y Z : Nat) (h : Z = P + M ^ i * (x * Yk)) : Z + M ^ (i + k) * (x * y) = P + M ^ i * (x * (Yk + M ^ k * y)) := by
  rw [h, Nat.pow_add]
  rw [Nat.mul_add x, Nat.mul_add (M ^ i)]
  have : M ^ i * (x * (M ^ k * y)) = M ^ i * M ^ k * (x * y) := by
    rw [Nat.mul_left_comm x (M ^ k) y, ← Nat.mul_assoc (M ^ i) (M ^ k)]
  omega

theorem mul_bound {M : Nat} (hM : 2 ≤ M) {xs ys : List Nat} (dx : Dig M xs) (dy : Dig M ys) (i k : Nat) (hi : i < xs.length) (hk : k ≤ ys.length) :
    val M (xs.take i) * val M ys + M ^ i * (gd xs i * val M (ys.take k)) < M ^ (xs.length + ys.length + 1) := by
  have h1 : val M (ys.take k) ≤ val M ys := by
    have := val_split M ys k hk
    omega
  have h2 : M ^ i * (gd xs i * val M (ys.take k)) ≤ M ^ i * gd xs i * val M ys := by
    rw [← Nat.mul_assoc]; exact Nat.mul_le_mul_left _ h1
  have h3 : val M (xs.take i) * val M ys + M ^ i * gd xs i * val M ys = val M (xs.take (i + 1)) * val M ys := by
    rw [val_take_succ', Nat.add_mul]
  have h4 : val M (xs.take (i + 1)) < M ^ xs.length := by
    have h5 := val_lt (dx.take (i + 1))
    exact Nat.lt_of_lt_of_le h5 (Nat.pow_le_pow_right (by omega) (by rw [List.length_take]; omega))
  have h6 := val_lt dy
  have h7 : val M (xs.take (i + 1)) * val M ys ≤ M ^ xs.length * M ^ ys.length := Nat.mul_le_mul (Nat.le_of_lt h4) (Nat.le_of_lt h6)
  have h8 : M ^ xs.length * M ^ ys.length < M ^ (xs.length + ys.length + 1) := by
    rw [← Nat.pow_add]; exact Nat.pow_lt_pow_right (by omega) (by omega)
  omega

/-- shifting: digit by digit -/
theorem shift_low {M : Nat} (zs xs : List Nat) (i p : Nat) (hp : p ≤ M) (dx : Dig M xs) (hi : i < xs.length) (h : val M zs = val M (xs.take i) * p) : gd zs i < p ∨ p = 0 := by
  rcases Nat.eq_zero_or_pos p with h0 | h0
  · exact .inr h0
  · left
    have h1 := gd_le_val M zs i
    have h2 := val_lt (dx.take i)
    rw [List.length_take, Nat.min_eq_left (Nat.le_of_lt hi)] at h2
    have h3 : val M (xs.take i) * p < M ^ i * p := Nat.mul_lt_mul_of_pos_right h2 h0
    have h4 : M ^ i * gd zs i < M ^ i * p := by omega
    exact Nat.lt_of_mul_lt_mul_left h4

theorem shift_high {M : Nat} (hM : 2 ≤ M) (zs xs : List Nat) (i p j : Nat) (hp : p ≤ M) (dx : Dig M xs) (hj : i + 1 ≤ j) (hi : i ≤ xs.length) (h : val M zs = val M (xs.take i) * p) : gd zs j = 0 := by
  have h1 := gd_le_val M zs j
  have h2 := val_lt (dx.take i)
  rw [List.length_take, Nat.min_eq_left hi] at h2
  have h3 : val M (xs.take i) * p < M ^ j * 1 := by
    have h4 : val M (xs.take i) * p ≤ val M (xs.take i) * M := Nat.mul_le_mul_left _ hp
    have h5 : val M (xs.take i) * M < M ^ i * M := Nat.mul_lt_mul_of_pos_right h2 (by omega)
    have h6 : M ^ (i + 1) ≤ M ^ j := Nat.pow_le_pow_right (by omega) hj
    rw [Nat.pow_succ] at h6; omega
  have h4 : M ^ j * gd zs j < M ^ j * 1 := by omega
  have := Nat.lt_of_mul_lt_mul_left h4
  omega

theorem shift_step {M : Nat} (hM : 2 ≤ M) (zs xs : List Nat) (i p : Nat) (hi : i + 1 < zs.length) (hp : p ≤ M) (dx : Dig M xs) (hx : i < xs.length) (h : val M zs = val M (xs.take i) * p) :
    val M ((zs.set i (gd zs i + gd xs i * p % M)).set (i + 1) (gd xs i * p / M)) = val M (xs.take (i + 1)) * p := by
  have h0 : gd zs (i + 1) = 0 := shift_high hM zs xs i p (i + 1) hp dx (Nat.le_refl _) (Nat.le_of_lt hx) h
  have h1 := val_set M zs i (gd zs i + gd xs i * p % M) (by omega)
  have h2 := val_set M (zs.set i (gd zs i + gd xs i * p % M)) (i + 1) (gd xs i * p / M) (by rw [List.length_set]; exact hi)
  rw [gd_set_ne _ _ (by omega), h0] at h2
  rw [val_take_succ', Nat.add_mul, ← h]
  have h3 := Nat.mod_add_div (gd xs i * p) M
  have h4 := congrArg (M ^ i * ·) h3
  simp only [Nat.mul_add, ← Nat.mul_assoc] at h4 h1
  rw [Nat.pow_succ] at h2
  omega

end Go.Proofs.YtboolbcckfldaaaDoor

/- The bytes of a number: its string, the most significant byte first. Plain mathematics. -/
namespace Go.Proofs.YtboolbcckfldaaaDoor
set_option linter.unusedVariables false

/-- the string of a number: its bytes, the most significant one first, without zeros at the beginning -/
def magB (n : Nat) : ByteArray := ⟨((digs 256 n).reverse.map UInt8.ofNat).toArray⟩

theorem rb_mk (l : List Nat) (h : Dig 256 l) : rb ⟨(l.reverse.map UInt8.ofNat).toArray⟩ = l := by
  unfold rb
  simp only [List.map_reverse, List.reverse_reverse, List.map_map]
  have : l.map (UInt8.toNat ∘ UInt8.ofNat) = l.map id := by
    apply List.map_congr_left
    intro x hx
    have := h x hx
    simp only [Function.comp, id]
    rw [UInt8.toNat_ofNat']
    omega
  simpa using this

theorem sv_magB (n : Nat) : sv (magB n) = n := by
  unfold sv magB
  rw [rb_mk _ (digs_Dig (by decide) n), val_digs (by decide)]

theorem map_ofNat_toNat (l : List UInt8) : (l.map UInt8.toNat).map UInt8.ofNat = l := by
  rw [List.map_map]
  conv => rhs; rw [← List.map_id l]
  apply List.map_congr_left
  intro x _
  simp

theorem size_magB (n : Nat) : (magB n).size = (digs 256 n).length := by
  have : (magB n).size = ((digs 256 n).reverse.map UInt8.ofNat).length := rfl
  rw [this]; simp

theorem magB_zero : magB 0 = ⟨#[]⟩ := by simp [magB, digs_zero]

/-- a string without a zero at its beginning is that of its number -/
theorem magB_sv (s : ByteArray) (h : trimL (rb s) = rb s) : magB (sv s) = s := by
  unfold magB sv
  rw [digs_val (by decide) (rb_Dig s), h]
  unfold rb
  rw [List.reverse_reverse, map_ofNat_toNat]

/-- the four bytes of each word, the least significant ones first -/
def le4 (xs : List Nat) : List Nat := xs.flatMap fun x => [x % 256, x / 256 % 256, x / 65536 % 256, x / 16777216 % 256]
theorem le4_Dig (xs : List Nat) : Dig 256 (le4 xs) := fun y hy => by
  simp only [le4, List.mem_flatMap, List.mem_cons, List.not_mem_nil, or_false] at hy
  obtain ⟨x, _, h⟩ := hy
  omega
theorem val_le4 (xs : List Nat) (h : Dig 4294967296 xs) : val 256 (le4 xs) = val 4294967296 xs := by
  induction xs with
  | nil => rfl
  | cons x xs ih =>
    have h1 := ih h.tail
    have h2 := h.head
    have : le4 (x :: xs) = [x % 256, x / 256 % 256, x / 65536 % 256, x / 16777216 % 256] ++ le4 xs := by simp [le4]
    rw [this, val_append, h1]
    simp only [val, List.length_cons, List.length_nil]
    omega
theorem le4_length (xs : List Nat) : (le4 xs).length = 4 * xs.length := by
  induction xs with
  | nil => rfl
  | cons x xs ih =>
    have : le4 (x :: xs) = [x % 256, x / 256 % 256, x / 65536 % 256, x / 16777216 % 256] ++ le4 xs := by simp [le4]
    rw [this, List.length_append, ih]; simp; omega
theorem le4_drop (xs : List Nat) (m : Nat) (h : m < xs.length) : (le4 (xs.drop m)).reverse = (le4 (xs.drop (m + 1))).reverse ++ [gd xs m / 16777216 % 256, gd xs m / 65536 % 256, gd xs m / 256 % 256, gd xs m % 256] := by
  rw [List.drop_eq_getElem_cons h]
  have : ∀ x (ys : List Nat), le4 (x :: ys) = [x % 256, x / 256 % 256, x / 65536 % 256, x / 16777216 % 256] ++ le4 ys := fun x ys => by simp [le4]
  rw [this, gd_get h]
  simp

/-- zeros at the end are what is dropped at the beginning of the reversed list -/
theorem dropWhile_reverse (xs : List Nat) : (xs.reverse.dropWhile (· == 0)) = (trimL xs).reverse := by
  induction xs with
  | nil => rfl
  | cons x xs ih =>
    rw [List.reverse_cons, List.dropWhile_append, ih]
    simp only [trimL]
    by_cases h : trimL xs = []
    · rw [h]
      by_cases hx : x = 0
      · subst hx; simp
      · simp [hx]
    · rw [if_neg h]
      have : (trimL xs).reverse ≠ [] := by simpa using h
      rw [if_neg (by simpa using this), List.reverse_cons]

/-- an integer's sign and the bytes of its absolute value -/
def sg (z : Int) : Bool := decide (z < 0)
def mg (z : Int) : ByteArray := magB z.natAbs

/-- a sign and bytes are an integer's valid form -/
def vld (n : Bool) (s : ByteArray) : Bool := if h : 0 < s.size then s[0] != 0 else !n
/-- the integer with a sign and bytes -/
def ival (n : Bool) (s : ByteArray) : Int := if n then -(sv s : Int) else (sv s : Int)

theorem dropWhile_none {l : List UInt8} (h : ∀ c, l.head? = some c → c ≠ 0) : l.dropWhile (· == 0) = l := by
  cases l with
  | nil => rfl
  | cons c l => rw [List.dropWhile_cons, if_neg (by simpa using h c rfl)]

theorem rb_trim (s : ByteArray) (h : ∀ h : 0 < s.size, s[0] ≠ 0) : trimL (rb s) = rb s := by
  have h1 := dropWhile_reverse (rb s)
  have h2 : (rb s).reverse.dropWhile (· == 0) = (rb s).reverse := by
    unfold rb
    rw [List.reverse_reverse]
    cases hl : s.data.toList with
    | nil => rfl
    | cons c l =>
      have hs : 0 < s.size := by
        have : s.data.toList.length = s.size := by simp
        rw [hl] at this; simp at this; omega
      have hc : s[0] = c := by
        have : s[0] = s.data.toList[0]'(by rw [hl]; simp) := rfl
        rw [this]; simp [hl]
      have := h hs
      rw [hc] at this
      rw [List.map_cons, List.dropWhile_cons, if_neg]
      simp only [beq_iff_eq]
      intro e
      exact this (UInt8.toNat_inj.1 (by rw [e]; rfl))
  rw [h2] at h1
  have := congrArg List.reverse h1
  rw [List.reverse_reverse, List.reverse_reverse] at this
  exact this.symm

theorem magB_first (n : Nat) (h : 0 < (magB n).size) : (magB n)[0] ≠ 0 := by
  intro e
  have h1 : trimL (rb (magB n)) = rb (magB n) := by
    unfold magB; rw [rb_mk _ (digs_Dig (by decide) n), trimL_digs (by decide)]
  have h2 := dropWhile_reverse (rb (magB n))
  rw [h1] at h2
  have h3 : (rb (magB n)).reverse = (magB n).data.toList.map UInt8.toNat := by unfold rb; rw [List.reverse_reverse]
  rw [h3] at h2
  cases hl : (magB n).data.toList with
  | nil =>
    have : (magB n).data.toList.length = (magB n).size := by simp
    rw [hl] at this; simp at this; omega
  | cons c l =>
    have hc : (magB n)[0] = c := by
      have : (magB n)[0] = (magB n).data.toList[0]'(by rw [hl]; simp) := rfl
      rw [this]; simp [hl]
    rw [hc] at e
    subst e
    rw [hl] at h2
    have := congrArg List.length h2
    simp only [List.map_cons, List.dropWhile_cons, show (UInt8.toNat 0 == 0) = true from rfl, if_true] at this
    have h4 := (List.dropWhile_sublist (fun x : Nat => x == 0) (l := l.map UInt8.toNat)).length_le
    simp only [List.length_cons, List.length_map] at this h4
    omega

theorem vld_sg (z : Int) : vld (sg z) (mg z) = true := by
  unfold vld
  by_cases h : 0 < (mg z).size
  · rw [dif_pos h]
    rw [bne_iff_ne]
    exact magB_first z.natAbs h
  · rw [dif_neg h]
    have : (digs 256 z.natAbs).length = 0 := by
      have := size_magB z.natAbs
      unfold mg at h; omega
    have h0 : z.natAbs = 0 := (digs_nil_iff (B := 256) (by decide) _).1 (List.eq_nil_of_length_eq_zero this)
    have : z = 0 := by omega
    subst this; rfl

theorem vld_form {n : Bool} {s : ByteArray} (h : vld n s = true) : n = sg (ival n s) ∧ s = mg (ival n s) := by
  have hs : magB (sv s) = s := magB_sv s (rb_trim s fun h0 => by
    unfold vld at h; rw [dif_pos h0] at h; simpa using h)
  have hn : (ival n s).natAbs = sv s := by unfold ival; cases n <;> simp
  refine ⟨?_, by unfold mg; rw [hn, hs]⟩
  unfold sg ival
  cases n with
  | false => simp
  | true =>
    have hpos : sv s ≠ 0 := fun e => by
      rw [e, magB_zero] at hs
      rw [← hs] at h
      exact absurd h (by decide)
    simp; omega

theorem ival_sg (z : Int) : ival (sg z) (mg z) = z := by
  unfold ival sg mg
  rw [sv_magB]
  by_cases h : z < 0
  · simp [h]; omega
  · simp [h]; omega

theorem mg_size_zero (z : Int) : (mg z).size = 0 ↔ z = 0 := by
  unfold mg
  rw [size_magB]
  constructor
  · intro h
    have := (digs_nil_iff (B := 256) (by decide) _).1 (List.eq_nil_of_length_eq_zero h)
    omega
  · rintro rfl; simp [digs_zero]
theorem mg_zero : mg 0 = ⟨#[]⟩ := magB_zero
theorem sv_mg (z : Int) : sv (mg z) = z.natAbs := sv_magB _
theorem mg_neg (z : Int) : mg (-z) = mg z := by unfold mg; rw [Int.natAbs_neg]
theorem sg_mg_inj {x y : Int} (h : sg x = sg y) (h' : mg x = mg y) : x = y := by rw [← ival_sg x, ← ival_sg y, h, h']

/-- how many bytes an integer has -/
def Bd (k : Nat) (z : Int) : Prop := z.natAbs < 256 ^ k
theorem Bd.mono {a b : Nat} {z : Int} (h : Bd a z) (hab : a ≤ b) : Bd b z := Nat.lt_of_lt_of_le h (Nat.pow_le_pow_right (by decide) hab)
theorem Bd.size {k : Nat} {z : Int} (h : Bd k z) : (mg z).size ≤ k := by
  unfold mg; rw [size_magB]; exact digs_length_le (by decide) h
theorem Bd.digs {k : Nat} {z : Int} (h : Bd k z) : (digs 4294967296 z.natAbs).length ≤ k := by
  apply digs_length_le (by decide)
  exact Nat.lt_of_lt_of_le h (Nat.pow_le_pow_left (by decide) k)
theorem Bd.digs24 {k : Nat} {z : Int} (h : Bd k z) : (Go.Proofs.YtboolbcckfldaaaDoor.digs 16777216 z.natAbs).length ≤ k := by
  apply digs_length_le (by decide)
  exact Nat.lt_of_lt_of_le h (Nat.pow_le_pow_left (by decide) k)
theorem Bd.of_size (z : Int) : Bd (mg z).size z := by
  unfold Bd mg; rw [size_magB]; exact lt_pow_digs (by decide) _
theorem Bd.neg {k : Nat} {z : Int} (h : Bd k z) : Bd k (-z) := by unfold Bd at *; rwa [Int.natAbs_neg]
theorem Bd.mul {a b : Nat} {x y : Int} (h : Bd a x) (h' : Bd b y) : Bd (a + b) (x * y) := by
  unfold Bd at *
  rw [Int.natAbs_mul, Nat.pow_add]
  exact Nat.mul_lt_mul'' h h'
theorem Bd.add {a : Nat} {x y : Int} (h : Bd a x) (h' : Bd a y) : Bd (a + 1) (x + y) := by
  unfold Bd at *
  have h1 := Int.natAbs_add_le x y
  rw [Nat.pow_succ]
  omega
theorem Bd.sub {a : Nat} {x y : Int} (h : Bd a x) (h' : Bd a y) : Bd (a + 1) (x - y) := by
  rw [Int.sub_eq_add_neg]; exact h.add h'.neg
theorem Bd.zero (k : Nat) : Bd k 0 := Nat.pow_pos (by decide)
theorem Bd.le {k : Nat} {x y : Int} (h : Bd k x) (h' : y.natAbs ≤ x.natAbs) : Bd k y := Nat.lt_of_le_of_lt h' h

end Go.Proofs.YtboolbcckfldaaaDoor

/- Long division: a guessed digit of the quotient is right or too great by one. Plain mathematics. -/
namespace Go.Proofs.YtboolbcckfldaaaDoor
set_option linter.unusedVariables false

theorem guess_not_below {U V P t2 v2 qt : Nat} (hP : 0 < P) (hU : U < (t2 + 1) * P) (hV : v2 * P ≤ V) (h : qt * V ≤ U) : qt * v2 ≤ t2 := by
  have h1 : qt * (v2 * P) ≤ qt * V := Nat.mul_le_mul_left _ hV
  rw [← Nat.mul_assoc] at h1
  have h2 : qt * v2 * P < (t2 + 1) * P := by omega
  have := Nat.lt_of_mul_lt_mul_right h2
  omega

theorem guess_near {U V P t2 v2 q qt : Nat} (hP : 0 < P) (hU : t2 * P ≤ U) (hV : V < (v2 + 1) * P) (hq : q * v2 ≤ t2) (hqv : q ≤ v2 + 1) (h : U < (qt + 1) * V) : q ≤ qt + 1 := by
  rcases Nat.lt_or_ge (qt + 1) q with h' | h'
  · exfalso
    obtain ⟨m, rfl⟩ : ∃ m, q = m + 1 := ⟨q - 1, by omega⟩
    have h1 : (qt + 1) * V ≤ m * V := Nat.mul_le_mul_right _ (by omega)
    have h2 : m * V ≤ m * ((v2 + 1) * P) := Nat.mul_le_mul_left _ (Nat.le_of_lt hV)
    have h3 : (m + 1) * v2 * P ≤ t2 * P := Nat.mul_le_mul_right _ hq
    have h4 : (m + 1) * v2 * P < m * (v2 + 1) * P := by rw [← Nat.mul_assoc] at h2; omega
    have h5 := Nat.lt_of_mul_lt_mul_right h4
    rw [Nat.add_mul, Nat.mul_add] at h5
    omega
  · exact h'

theorem sub_mul_arith (M P q x y carry b s b' X Y Z : Nat) (h : Z + q * Y = X + P * (carry + b)) (h2 : s + (carry + q * y) % M + b = x + M * b') :
    Z + P * s + q * (Y + P * y) = X + P * x + P * M * ((carry + q * y) / M + b') := by
  have h3 := Nat.mod_add_div (carry + q * y) M
  have h4 : s + q * y + carry + b = x + M * ((carry + q * y) / M + b') := by rw [Nat.mul_add]; omega
  have h5 := congrArg (P * ·) h4
  simp only [Nat.mul_add, ← Nat.mul_assoc] at h5 h ⊢
  have h6 : q * P * y = P * q * y := by rw [Nat.mul_comm q P]
  omega

theorem sub_mul_step (M : Nat) (zs us vs : List Nat) (i q carry b s b' : Nat) (hi : i < zs.length) (h : val M (zs.take i) + q * val M (vs.take i) = val M (us.take i) + M ^ i * (carry + b)) (h2 : s + (carry + q * gd vs i) % M + b = gd us i + M * b') :
    val M ((zs.set i s).take (i + 1)) + q * val M (vs.take (i + 1)) = val M (us.take (i + 1)) + M ^ (i + 1) * ((carry + q * gd vs i) / M + b') := by
  rw [val_set_take M s hi, val_take_succ', val_take_succ', Nat.pow_succ]
  exact sub_mul_arith M (M ^ i) q _ _ carry b s b' _ _ _ h h2

theorem carry_le {M q carry y : Nat} (hM : 0 < M) (hc : carry ≤ q) (hy : y < M) : (carry + q * y) / M ≤ q := by
  apply Nat.le_of_lt_succ
  rw [Nat.div_lt_iff_lt_mul hM]
  have : q * y ≤ q * (M - 1) := Nat.mul_le_mul_left _ (by omega)
  obtain ⟨m, rfl⟩ : ∃ m, M = m + 1 := ⟨M - 1, by omega⟩
  simp only [Nat.add_sub_cancel] at this
  rw [Nat.succ_mul, Nat.mul_add]; omega

/-- the part of a list that begins at a place -/
theorem set_mid (pre us post : List Nat) (i x : Nat) (h : i < us.length) : (pre ++ (us ++ post)).set (pre.length + i) x = pre ++ (us.set i x ++ post) := by
  rw [List.set_append_right _ _ (by omega), Nat.add_sub_cancel_left, List.set_append_left _ _ h]
theorem gd_mid (pre us post : List Nat) (i : Nat) (h : i < us.length) : gd (pre ++ (us ++ post)) (pre.length + i) = gd us i := by
  rw [gd_append_right (by omega), Nat.add_sub_cancel_left, gd_append_left h]

/-- the two first digits of a number -/
theorem top_two {M : Nat} (hM : 2 ≤ M) {vs : List Nat} (n : Nat) (hn : vs.length = n + 2) (d : Dig M vs) :
    (gd vs (n + 1) * M + gd vs n) * M ^ n ≤ val M vs ∧ val M vs < (gd vs (n + 1) * M + gd vs n + 1) * M ^ n := by
  have h1 := val_split M vs n (by omega)
  have h2 := val_drop M vs n (by omega)
  have h3 := val_drop M vs (n + 1) (by omega)
  rw [List.drop_of_length_le (show vs.length ≤ n + 1 + 1 by omega)] at h3
  simp only [val, Nat.mul_zero, Nat.add_zero] at h3
  have h4 := val_lt (d.take n)
  rw [List.length_take, Nat.min_eq_left (by omega)] at h4
  rw [h1, h2, h3]
  have e : M ^ n * (gd vs n + M * gd vs (n + 1)) = (gd vs (n + 1) * M + gd vs n) * M ^ n := by
    rw [Nat.mul_comm (M ^ n), Nat.add_comm (gd vs n), Nat.mul_comm M]
  rw [e, Nat.add_mul (gd vs (n + 1) * M + gd vs n) 1, Nat.one_mul]
  omega
theorem top_three {M : Nat} (hM : 2 ≤ M) {us : List Nat} (n : Nat) (hn : us.length = n + 3) (d : Dig M us) :
    ((gd us (n + 2) * M + gd us (n + 1)) * M + gd us n) * M ^ n ≤ val M us ∧ val M us < ((gd us (n + 2) * M + gd us (n + 1)) * M + gd us n + 1) * M ^ n := by
  have h1 := val_split M us n (by omega)
  have h2 := val_drop M us n (by omega)
  have h3 := val_drop M us (n + 1) (by omega)
  have h5 := val_drop M us (n + 1 + 1) (by omega)
  rw [List.drop_of_length_le (show us.length ≤ n + 1 + 1 + 1 by omega)] at h5
  simp only [val, Nat.mul_zero, Nat.add_zero] at h5
  have h4 := val_lt (d.take n)
  rw [List.length_take, Nat.min_eq_left (by omega)] at h4
  rw [h1, h2, h3, h5]
  have e : M ^ n * (gd us n + M * (gd us (n + 1) + M * gd us (n + 1 + 1))) = ((gd us (n + 2) * M + gd us (n + 1)) * M + gd us n) * M ^ n := by
    rw [Nat.mul_comm (M ^ n), Nat.add_comm (gd us n), Nat.mul_comm M, Nat.add_comm (gd us (n + 1)), Nat.mul_comm M]
  rw [e, Nat.add_mul _ 1, Nat.one_mul]
  omega

/-- what the correcting loop keeps: q v1 + r is the top; the quotient is not below -/
def GInv (v1 top qt q r : Nat) : Prop := q * v1 + r = top ∧ r < 4294967296 ∧ qt ≤ q ∧ q ≤ 4294967297
/-- the guess, after the loop that corrects it -/
def Guessed (v1 v0 top u0 qt q : Nat) : Prop := q < 4294967296 ∧ qt ≤ q ∧ q * (v1 * 4294967296 + v0) ≤ top * 4294967296 + u0

theorem two_mul_top (q v1 v0 M : Nat) : q * (v1 * M + v0) = q * v1 * M + q * v0 := by rw [Nat.mul_add, Nat.mul_assoc]

theorem ginv_down {v1 v0 top u0 qt q r : Nat} (h : GInv v1 top qt q r) (hK : qt * (v1 * 4294967296 + v0) ≤ top * 4294967296 + u0) (hqM : qt < 4294967296) (hc : 4294967296 ≤ q ∨ r * 4294967296 + u0 < q * v0) :
    1 ≤ q ∧ qt ≤ q - 1 ∧ (q - 1) * v1 + (r + v1) = top := by
  obtain ⟨h1, h2, h3, h4⟩ := h
  have hlt : qt < q := by
    rcases hc with hc | hc
    · omega
    · rcases Nat.lt_or_ge qt q with h' | h'
      · exact h'
      · exfalso
        have : qt = q := by omega
        subst this
        rw [two_mul_top] at hK
        have : (qt * v1 + r) * 4294967296 = top * 4294967296 := by rw [h1]
        rw [Nat.add_mul] at this
        omega
  refine ⟨by omega, by omega, ?_⟩
  obtain ⟨m, rfl⟩ : ∃ m, q = m + 1 := ⟨q - 1, by omega⟩
  rw [Nat.add_mul, Nat.one_mul] at h1
  rw [Nat.add_sub_cancel]; omega

theorem guess_exit {v1 v0 top u0 qt q r : Nat} (h : GInv v1 top qt q r) (hq : q < 4294967296) (ht : q * v0 ≤ r * 4294967296 + u0) : Guessed v1 v0 top u0 qt q := by
  obtain ⟨h1, h2, h3, h4⟩ := h
  refine ⟨hq, h3, ?_⟩
  rw [two_mul_top]
  have : (q * v1 + r) * 4294967296 = top * 4294967296 := by rw [h1]
  rw [Nat.add_mul] at this
  omega

theorem guess_break {v1 v0 top u0 qt q r : Nat} (hq : qt ≤ q) (h : q * v1 + r = top) (hr : 4294967296 ≤ r) (hv1 : 0 < v1) (hv0 : v0 < 4294967296) (htop : top ≤ v1 * 4294967296 + 4294967295) : Guessed v1 v0 top u0 qt q := by
  have hqM : q < 4294967296 := by
    have h1 : q * v1 < v1 * 4294967296 := by omega
    rw [Nat.mul_comm q v1] at h1
    exact Nat.lt_of_mul_lt_mul_left h1
  refine ⟨hqM, hq, ?_⟩
  rw [two_mul_top]
  have h2 : (q * v1 + r) * 4294967296 = top * 4294967296 := by rw [h]
  rw [Nat.add_mul] at h2
  have h3 : q * v0 ≤ 4294967296 * 4294967296 := Nat.mul_le_mul (Nat.le_of_lt hqM) (Nat.le_of_lt hv0)
  omega

theorem ginv_start {v1 top qt : Nat} (hv1 : 2147483648 ≤ v1) (hv : v1 < 4294967296) (htop : top ≤ v1 * 4294967296 + 4294967295) (hqt : qt * v1 ≤ top) : GInv v1 top qt (top / v1) (top % v1) := by
  have h1 := Nat.mod_lt top (show 0 < v1 by omega)
  refine ⟨?_, by omega, ?_, ?_⟩
  · rw [Nat.mul_comm]; exact Nat.div_add_mod top v1
  · rw [Nat.le_div_iff_mul_le (by omega)]; exact hqt
  · have : top / v1 < 4294967298 := by
      rw [Nat.div_lt_iff_lt_mul (by omega)]; omega
    omega

/-- what the two numbers of a step of the long division say of their first digits -/
theorem guess_facts {us vs : List Nat} (n : Nat) (hu : us.length = n + 3) (hv : vs.length = n + 2) (du : Dig 4294967296 us) (dv : Dig 4294967296 vs) (hn : 2147483648 ≤ gd vs (n + 1)) (h : val 4294967296 us < 4294967296 * val 4294967296 vs) :
    val 4294967296 us / val 4294967296 vs < 4294967296 ∧
    (val 4294967296 us / val 4294967296 vs) * (gd vs (n + 1) * 4294967296 + gd vs n) ≤ (gd us (n + 2) * 4294967296 + gd us (n + 1)) * 4294967296 + gd us n ∧
    gd us (n + 2) * 4294967296 + gd us (n + 1) ≤ gd vs (n + 1) * 4294967296 + 4294967295 ∧
    (val 4294967296 us / val 4294967296 vs) * gd vs (n + 1) ≤ gd us (n + 2) * 4294967296 + gd us (n + 1) := by
  have hP : 0 < 4294967296 ^ n := Nat.pow_pos (by decide)
  have hV := top_two (by decide) n hv dv
  have hU := top_three (by decide) n hu du
  have gv0 := dv.gd (by decide) n
  have gu1 := du.gd (by decide) (n + 1)
  have gu0 := du.gd (by decide) n
  have hV0 : 0 < val 4294967296 vs := by
    have : 1 * 4294967296 ^ n ≤ (gd vs (n + 1) * 4294967296 + gd vs n) * 4294967296 ^ n := Nat.mul_le_mul_right _ (by omega)
    omega
  have hq : val 4294967296 us / val 4294967296 vs < 4294967296 := by rw [Nat.div_lt_iff_lt_mul hV0]; exact h
  have hk := guess_not_below hP hU.2 hV.1 (Nat.div_mul_le_self (val 4294967296 us) (val 4294967296 vs))
  have htop : gd us (n + 2) ≤ gd vs (n + 1) := by
    have h1 : ((gd us (n + 2) * 4294967296 + gd us (n + 1)) * 4294967296 + gd us n) * 4294967296 ^ n < 4294967296 * ((gd vs (n + 1) * 4294967296 + gd vs n + 1) * 4294967296 ^ n) :=
      Nat.lt_of_le_of_lt hU.1 (Nat.lt_of_lt_of_le h (Nat.mul_le_mul_left _ (Nat.le_of_lt hV.2)))
    rw [← Nat.mul_assoc] at h1
    have := Nat.lt_of_mul_lt_mul_right h1
    omega
  refine ⟨hq, hk, by omega, ?_⟩
  generalize val 4294967296 us / val 4294967296 vs = qt at *
  rw [two_mul_top] at hk
  have h1 : qt * gd vs (n + 1) * 4294967296 < (gd us (n + 2) * 4294967296 + gd us (n + 1) + 1) * 4294967296 := by omega
  have := Nat.lt_of_mul_lt_mul_right h1
  omega

/-- a guess is right or too great by one -/
theorem guess_good {us vs : List Nat} (n q : Nat) (hu : us.length = n + 3) (hv : vs.length = n + 2) (du : Dig 4294967296 us) (dv : Dig 4294967296 vs) (hn : 2147483648 ≤ gd vs (n + 1))
    (h : Guessed (gd vs (n + 1)) (gd vs n) (gd us (n + 2) * 4294967296 + gd us (n + 1)) (gd us n) (val 4294967296 us / val 4294967296 vs) q) : q ≤ val 4294967296 us / val 4294967296 vs + 1 := by
  have hP : 0 < 4294967296 ^ n := Nat.pow_pos (by decide)
  have hV := top_two (by decide) n hv dv
  have hU := top_three (by decide) n hu du
  have hV0 : 0 < val 4294967296 vs := by
    have : 1 * 4294967296 ^ n ≤ (gd vs (n + 1) * 4294967296 + gd vs n) * 4294967296 ^ n := Nat.mul_le_mul_right _ (by omega)
    omega
  obtain ⟨h1, h2, h3⟩ := h
  exact guess_near hP hU.1 hV.2 h3 (by omega) (by
    rw [Nat.add_mul, Nat.one_mul]
    have := Nat.div_add_mod (val 4294967296 us) (val 4294967296 vs)
    have h4 := Nat.mod_lt (val 4294967296 us) hV0
    rw [Nat.mul_comm] at this; omega)

/-- the end of a step: the guess was right, and the rest is what is left -/
theorem step_right {U V q Z Mn b : Nat} (hV : 0 < V) (h : Z + q * V = U + Mn * b) (hb : b = 0) (hZ : Z < Mn) (hq1 : U / V ≤ q) : q = U / V ∧ Z = U % V := by
  subst hb
  have h1 : Z + q * V = U := by omega
  have h2 : q ≤ U / V := by rw [Nat.le_div_iff_mul_le hV]; omega
  have h3 : q = U / V := by omega
  refine ⟨h3, ?_⟩
  have := Nat.div_add_mod U V
  rw [Nat.mul_comm, ← h3] at this; omega

/-- the guess was too great by one -/
theorem step_over {U V q Z Mn b : Nat} (hV : 0 < V) (h : Z + q * V = U + Mn * b) (hb : b = 1) (hZ : Z < Mn) (hq1 : U / V ≤ q) (hq2 : q ≤ U / V + 1) : q = U / V + 1 ∧ Z + V = U % V + Mn := by
  subst hb
  have h0 := Nat.div_add_mod U V
  rw [Nat.mul_comm] at h0
  have h2 : q ≠ U / V := by
    rintro rfl
    have := Nat.mod_lt U hV
    omega
  have h3 : q = U / V + 1 := by omega
  refine ⟨h3, ?_⟩
  rw [h3, Nat.add_mul, Nat.one_mul] at h
  omega

theorem mid_len {pre us post : List Nat} {b : Nat} (h : us.length = b) (i : Nat) (hi : i < b) : pre.length + i < (pre ++ (us ++ post)).length := by
  rw [List.length_append, List.length_append]; omega
theorem Dig.mid {B : Nat} {us : List Nat} (h : Dig B us) (i x : Nat) (hx : x < B) : Dig B (us.set i x) := h.set i x hx
theorem val_full (M : Nat) (us : List Nat) (k : Nat) (h : us.length ≤ k) : val M (us.take k) = val M us := by rw [List.take_of_length_le h]

/-- adding back: the sum with its last digit cut to size -/
theorem add_back_end {M : Nat} (hM : 2 ≤ M) (us' us : List Nat) (V c Z n R : Nat) (hl : us'.length = n + 1) (hg : gd us' n = gd us n) (h : val M (us'.take n) + M ^ n * c = val M (us.take n) + V) (hZ : val M us = Z) (hlu : us.length = n + 1) (hR : Z + V = R + M ^ (n + 1)) (hRl : R < M ^ (n + 1)) (d : Dig M us') (dz : Dig M us) :
    val M (us'.set n ((gd us' n + c) % M)) = R := by
  have h1 := val_set_take M (xs := us') (k := n) ((gd us' n + c) % M) (by omega)
  rw [List.take_of_length_le (by rw [List.length_set]; omega)] at h1
  have h2 := val_take_succ' M us n
  rw [List.take_of_length_le (by omega), hZ] at h2
  have h3 := Nat.mod_add_div (gd us' n + c) M
  have h4 := congrArg (M ^ n * ·) h3
  simp only [Nat.mul_add, ← Nat.mul_assoc] at h4
  have h5 : val M (us'.set n ((gd us' n + c) % M)) < M ^ (n + 1) := by
    have := val_lt (d.set n _ (Nat.mod_lt _ (by omega) : (gd us' n + c) % M < M))
    rwa [List.length_set, hl] at this
  rw [hg] at h1 h3 h4 h5 ⊢
  generalize val M (us'.set n ((gd us n + c) % M)) = X at *
  -- X + M^(n+1) * k = R + M^(n+1)
  have h6 : X + M ^ n * M * ((gd us n + c) / M) = R + M ^ (n + 1) := by omega
  rw [← Nat.pow_succ] at h6
  generalize (gd us n + c) / M = k at *
  generalize M ^ (n + 1) = P at *
  rcases Nat.lt_or_ge k 1 with hk | hk
  · have : k = 0 := by omega
    subst this; omega
  · rcases Nat.lt_or_ge k 2 with hk2 | hk2
    · have : k = 1 := by omega
      subst this; omega
    · have : P * 2 ≤ P * k := Nat.mul_le_mul_left _ hk2
      omega

end Go.Proofs.YtboolbcckfldaaaDoor

/- Long division: the quotient's digits from the top; shifting back; the length in bits. Plain mathematics. -/
namespace Go.Proofs.YtboolbcckfldaaaDoor
set_option linter.unusedVariables false

/-- the part that is divided next is small enough -/
theorem long_seg {M V j n : Nat} (hM : 2 ≤ M) {zs pre us post : List Nat} (hz : zs = pre ++ (us ++ post)) (hp : pre.length = j) (hu : us.length = n + 1) (hlt : val M zs < V * M ^ (j + 1)) : val M us < M * V := by
  have hv : val M zs = val M pre + M ^ j * (val M us + M ^ (n + 1) * val M post) := by rw [hz, val_append, val_append, hp, hu]
  have h1 : M ^ j * (val M us + M ^ (n + 1) * val M post) < M ^ j * (V * M) := by
    have e : V * M ^ (j + 1) = M ^ j * (V * M) := by rw [Nat.pow_succ, Nat.mul_left_comm]
    rw [← e]
    exact Nat.lt_of_le_of_lt (by rw [hv]; exact Nat.le_add_left _ _) hlt
  have h2 := Nat.lt_of_mul_lt_mul_left h1
  rw [Nat.mul_comm M V]
  exact Nat.lt_of_le_of_lt (Nat.le_add_right _ _) h2

/-- a digit is divided off: what is left of the number, and what the quotient gets -/
theorem long_step {M V U j n : Nat} (hM : 2 ≤ M) {zs qs pre us us' post : List Nat} (hz : zs = pre ++ (us ++ post)) (hp : pre.length = j) (hu : us.length = n + 1) (hu' : us'.length = n + 1) (dz : Dig M zs) (hVn : V < M ^ n) (hV : 0 < V) (hj : j < qs.length)
    (hI : U = V * M ^ (j + 1) * val M (qs.drop (j + 1)) + val M zs) (hlt : val M zs < V * M ^ (j + 1)) (hus : val M us' = val M us % V) :
    val M us < M * V ∧ U = V * M ^ j * val M ((qs.set j (val M us / V)).drop j) + val M (pre ++ (us' ++ post)) ∧ val M (pre ++ (us' ++ post)) < V * M ^ j := by
  have hv : val M zs = val M pre + M ^ j * (val M us + M ^ (n + 1) * val M post) := by rw [hz, val_append, val_append, hp, hu]
  have hv' : val M (pre ++ (us' ++ post)) = val M pre + M ^ j * (val M us' + M ^ (n + 1) * val M post) := by rw [val_append, val_append, hp, hu']
  have hpre : val M pre < M ^ j := by
    have : Dig M pre := fun x hx => dz x (by rw [hz]; exact List.mem_append_left _ hx)
    have := val_lt this
    rwa [hp] at this
  have hjp : 0 < M ^ j := Nat.pow_pos (by omega)
  have h1 : M ^ j * (val M us + M ^ (n + 1) * val M post) < M ^ j * (V * M) := by
    have e : V * M ^ (j + 1) = M ^ j * (V * M) := by rw [Nat.pow_succ, Nat.mul_left_comm]
    rw [← e]
    exact Nat.lt_of_le_of_lt (by rw [hv]; exact Nat.le_add_left _ _) hlt
  have h2 := Nat.lt_of_mul_lt_mul_left h1
  have hpost : val M post = 0 := by
    rcases Nat.eq_zero_or_pos (val M post) with h | h
    · exact h
    · exfalso
      have h3 : M ^ (n + 1) * 1 ≤ M ^ (n + 1) * val M post := Nat.mul_le_mul_left _ h
      have h4 : V * M < M ^ n * M := Nat.mul_lt_mul_of_pos_right hVn (by omega)
      rw [← Nat.pow_succ] at h4
      exact Nat.lt_irrefl _ (Nat.lt_of_lt_of_le (Nat.lt_of_le_of_lt (Nat.le_trans (by rw [Nat.mul_one] at h3; exact h3) (Nat.le_add_left _ _)) h2) (Nat.le_of_lt h4))
  rw [hpost, Nat.mul_zero, Nat.add_zero] at hv hv' h2
  have hdm := Nat.div_add_mod (val M us) V
  rw [← hus] at hdm
  refine ⟨by rw [Nat.mul_comm]; exact h2, ?_, ?_⟩
  · rw [hv', hI, hv, val_drop M _ j (by rw [List.length_set]; exact hj), gd_set_eq _ hj, List.drop_set_of_lt (by omega)]
    have e1 : V * M ^ (j + 1) * val M (qs.drop (j + 1)) = V * M ^ j * (M * val M (qs.drop (j + 1))) := by
      rw [Nat.pow_succ, ← Nat.mul_assoc V, Nat.mul_assoc (V * M ^ j)]
    have e2 : M ^ j * val M us = V * M ^ j * (val M us / V) + M ^ j * val M us' := by
      conv => lhs; rw [← hdm]
      rw [Nat.mul_add, ← Nat.mul_assoc, Nat.mul_comm (M ^ j) V]
    rw [e1, e2, Nat.mul_add]; omega
  · rw [hv']
    have h3 : val M us' + 1 ≤ V := by rw [hus]; exact Nat.mod_lt _ hV
    have h4 : M ^ j * (val M us' + 1) ≤ M ^ j * V := Nat.mul_le_mul_left _ h3
    rw [Nat.mul_add] at h4
    rw [Nat.mul_comm V]; omega

theorem long_end {U V Q R x y p : Nat} (hp : 0 < p) (hU : U = x * p) (hV : V = y * p) (h : U = V * Q + R) (hR : R < V) : Q = x / y ∧ R = (x % y) * p := by
  have hy : 0 < y := by
    rcases Nat.eq_zero_or_pos y with h0 | h0
    · subst h0; rw [Nat.zero_mul] at hV; omega
    · exact h0
  have h1 : Q = U / V := by
    rw [h, Nat.mul_add_div (by omega), Nat.div_eq_of_lt hR]; rfl
  have h2 : R = U % V := by
    rw [h, Nat.mul_add_mod, Nat.mod_eq_of_lt hR]
  rw [h1, h2, hU, hV]
  exact ⟨Nat.mul_div_mul_right x y hp, Nat.mul_mod_mul_right p x y⟩

theorem val_digit (M : Nat) (hM : 2 ≤ M) (zs : List Nat) (d : Dig M zs) (i : Nat) : val M zs / M ^ i = gd zs i + M * (gd zs (i + 1) + M * (val M zs / M ^ (i + 2))) := by
  have key : ∀ i, val M zs / M ^ i = gd zs i + M * (val M zs / M ^ (i + 1)) := by
    intro i
    have h1 : gd zs i = val M zs / M ^ i % M := by
      have := digs_gd hM (val M zs) i
      rw [digs_val hM d] at this
      rw [← this]
      rcases Nat.lt_or_ge i (trimL zs).length with h | h
      · conv => rhs; rw [trimL_take]
        rw [gd_take h]
      · rw [gd_behind h]
        have h2 := gd_le_val M zs i
        rcases Nat.eq_zero_or_pos (gd zs i) with h3 | h3
        · exact h3
        · exfalso
          have h4 : M ^ i * 1 ≤ M ^ i * gd zs i := Nat.mul_le_mul_left _ h3
          have h5 := val_lt d.trimL
          rw [val_trimL] at h5
          have h6 : M ^ (trimL zs).length ≤ M ^ i := Nat.pow_le_pow_right (by omega) h
          omega
    rw [h1, Nat.pow_succ, ← Nat.div_div_eq_div_mul]
    exact (Nat.mod_add_div _ _).symm
  rw [key i, key (i + 1)]

/-- a digit of a number that is shifted back -/
theorem unshift_digit {M p h : Nat} (hM : 2 ≤ M) (hp : 0 < p) (hh : M = p * h) (zs : List Nat) (d : Dig M zs) (i : Nat) : (gd zs (i + 1) * M + gd zs i) / p % M = val M zs / p / M ^ i % M := by
  rw [Nat.div_div_eq_div_mul, Nat.mul_comm p, ← Nat.div_div_eq_div_mul, val_digit M hM zs d i]
  have e : gd zs i + M * (gd zs (i + 1) + M * (val M zs / M ^ (i + 2))) = (gd zs (i + 1) * M + gd zs i) + p * (M * (h * (val M zs / M ^ (i + 2)))) := by
    generalize val M zs / M ^ (i + 2) = W
    rw [Nat.mul_add, ← Nat.add_assoc, Nat.mul_comm M (gd zs (i + 1)), Nat.add_comm (gd zs i)]
    congr 1
    rw [← Nat.mul_assoc M M W]
    conv => lhs; rw [show M * M = p * h * M by rw [← hh]]
    rw [Nat.mul_assoc, Nat.mul_assoc, Nat.mul_left_comm h M W]
  rw [e, Nat.add_mul_div_left _ _ hp, Nat.add_mul_mod_self_left]

theorem take_mod (M : Nat) (X i : Nat) : X % M ^ (i + 1) = X % M ^ i + M ^ i * (X / M ^ i % M) := by
  rw [Nat.pow_succ, Nat.mod_mul]

/-- the highest digit of a number that is shifted to the left end -/
theorem top_shift {M n y p : Nat} (hM : 2 ≤ M) {vs : List Nat} (d : Dig M vs) (hl : vs.length = n + 1) (hv : val M vs = y * p) (hy : M ^ n * ((M + 1) / 2) ≤ y * p) : (M + 1) / 2 ≤ gd vs n := by
  have h1 := val_split M vs n (by omega)
  have h2 := val_drop M vs n (by omega)
  rw [List.drop_of_length_le (show vs.length ≤ n + 1 by omega)] at h2
  simp only [val, Nat.mul_zero, Nat.add_zero] at h2
  have h3 := val_lt (d.take n)
  rw [List.length_take, Nat.min_eq_left (by omega)] at h3
  rw [h2] at h1
  have h4 : M ^ n * ((M + 1) / 2) < M ^ n * (gd vs n + 1) := by rw [Nat.mul_add, Nat.mul_one]; omega
  have := Nat.lt_of_mul_lt_mul_left h4
  omega

end Go.Proofs.YtboolbcckfldaaaDoor

/- Digits of three bytes. -/
namespace Go.Proofs.YtboolbcckfldaaaDoor

/-- the three bytes of each digit, the least significant ones first -/
def le3 (xs : List Nat) : List Nat := xs.flatMap fun x => [x % 256, x / 256 % 256, x / 65536 % 256]
theorem le3_cons (x : Nat) (xs : List Nat) : le3 (x :: xs) = [x % 256, x / 256 % 256, x / 65536 % 256] ++ le3 xs := by simp [le3]
theorem le3_Dig (xs : List Nat) : Dig 256 (le3 xs) := fun y hy => by
  simp only [le3, List.mem_flatMap, List.mem_cons, List.not_mem_nil, or_false] at hy
  obtain ⟨x, _, h⟩ := hy
  omega
theorem val_le3 (xs : List Nat) (h : Dig 16777216 xs) : val 256 (le3 xs) = val 16777216 xs := by
  induction xs with
  | nil => rfl
  | cons x xs ih =>
    have h1 := ih h.tail
    have h2 := h.head
    rw [le3_cons, val_append, h1]
    simp only [val, List.length_cons, List.length_nil]
    omega
theorem le3_length (xs : List Nat) : (le3 xs).length = 3 * xs.length := by
  induction xs with
  | nil => rfl
  | cons x xs ih => rw [le3_cons, List.length_append, ih]; simp; omega
/-- the byte at place j -/
def by3 (xs : List Nat) (j : Nat) : Nat := gd xs (j / 3) / 2 ^ (8 * (j % 3)) % 256
theorem gd_le3 (xs : List Nat) (j : Nat) : gd (le3 xs) j = by3 xs j := by
  unfold by3
  induction xs generalizing j with
  | nil =>
    have : ∀ k, gd [] k = 0 := fun k => gd_behind (by simp)
    rw [show le3 [] = [] from rfl, this, this, Nat.zero_div]
  | cons x xs ih =>
    rw [le3_cons]
    by_cases h : j < 3
    · rw [gd_append_left (by simpa using h)]
      have hj : j = 0 ∨ j = 1 ∨ j = 2 := by omega
      rcases hj with rfl | rfl | rfl <;> simp [gd]
    · rw [gd_append_right (by simpa using Nat.le_of_not_lt h)]
      simp only [List.length_cons, List.length_nil]
      rw [ih]
      obtain ⟨m, rfl⟩ : ∃ m, j = m + 3 := ⟨j - 3, by omega⟩
      rw [show m + 3 - (0 + 1 + 1 + 1) = m from by omega, show (m + 3) / 3 = m / 3 + 1 from by omega, show (m + 3) % 3 = m % 3 from by omega]
      rfl
theorem by3_lt (xs : List Nat) (j : Nat) : by3 xs j < 256 := Nat.mod_lt _ (by decide)

/-- a list that holds the bytes in turned order is the reversed list of bytes -/
theorem rev_le3 (xs zs : List Nat) (hl : zs.length = 3 * xs.length) (h : ∀ j, j < 3 * xs.length → gd zs (3 * xs.length - 1 - j) = by3 xs j) : zs = (le3 xs).reverse := by
  apply ext_gd
  · rw [List.length_reverse, le3_length, hl]
  · intro i hi
    rw [hl] at hi
    have h1 := h (3 * xs.length - 1 - i) (by omega)
    rw [show 3 * xs.length - 1 - (3 * xs.length - 1 - i) = i from by omega] at h1
    have hL := le3_length xs
    rw [h1, ← gd_le3]
    have e1 : gd (le3 xs).reverse i = (le3 xs).reverse[i]'(by rw [List.length_reverse, hL]; exact hi) := gd_get _
    have e2 : gd (le3 xs) (3 * xs.length - 1 - i) = (le3 xs)[3 * xs.length - 1 - i]'(by omega) := gd_get _
    rw [e1, e2, List.getElem_reverse]
    congr 1
    omega

theorem trim_le3 (xs : List Nat) (h : Dig 16777216 xs) : ((le3 xs).reverse.dropWhile (· == 0)) = (digs 256 (val 16777216 xs)).reverse := by
  rw [dropWhile_reverse, ← val_le3 xs h, digs_val (by decide) (le3_Dig xs)]

theorem dropWhile_take_zero (l : List Nat) (p : Nat) (h : ∀ i, i < p → gd l i = 0) (hp : p ≤ l.length) : l.dropWhile (· == 0) = (l.drop p).dropWhile (· == 0) := by
  induction p generalizing l with
  | zero => rfl
  | succ p ih =>
    cases l with
    | nil => rfl
    | cons x l =>
      have h0 := h 0 (by omega)
      have hx : x = 0 := h0
      rw [List.dropWhile_cons, if_pos (by simp [hx]), List.drop_succ_cons]
      exact ih l (fun i hi => h (i + 1) (by omega)) (by simpa using hp)
theorem dropWhile_stop (l : List Nat) (h : l = [] ∨ gd l 0 ≠ 0) : l.dropWhile (· == 0) = l := by
  cases l with
  | nil => rfl
  | cons x l =>
    rcases h with h | h
    · cases h
    · have hx : x ≠ 0 := h
      rw [List.dropWhile_cons, if_neg (by simpa using hx)]

theorem of_digit3 {M : Nat} (zs L : List Nat) (j r : Nat) (hM : M = 256 ^ 3) (hv : val M zs = val 256 (L.take (3 * j + r))) (hd : Dig 256 L) : gd zs j < 256 ^ r := by
  have h1 := gd_le_val M zs j
  have h2 := val_lt (hd.take (3 * j + r))
  have h3 : val 256 (L.take (3 * j + r)) < 256 ^ (3 * j + r) := Nat.lt_of_lt_of_le h2 (Nat.pow_le_pow_right (by decide) (by rw [List.length_take]; omega))
  rw [Nat.pow_add, Nat.pow_mul, ← hM] at h3
  have h4 : M ^ j * gd zs j < M ^ j * 256 ^ r := by omega
  exact Nat.lt_of_mul_lt_mul_left h4
theorem of_step3 {M : Nat} (zs L : List Nat) (j r : Nat) (hM : M = 256 ^ 3) (hj : j < zs.length) (hv : val M zs = val 256 (L.take (3 * j + r))) :
    val M (zs.set j (gd zs j + gd L (3 * j + r) * 256 ^ r)) = val 256 (L.take (3 * j + r + 1)) := by
  have h1 := val_set M zs j (gd zs j + gd L (3 * j + r) * 256 ^ r) hj
  rw [val_take_succ', Nat.pow_add, Nat.pow_mul, ← hM, ← hv]
  rw [Nat.mul_add] at h1
  have e : M ^ j * (gd L (3 * j + r) * 256 ^ r) = M ^ j * 256 ^ r * gd L (3 * j + r) := by
    rw [Nat.mul_comm (gd L (3 * j + r)), Nat.mul_assoc]
  rw [e] at h1; omega
theorem pow24 (k : Nat) : 16777216 ^ k = 256 ^ (3 * k) := by rw [Nat.pow_mul]
/-- as many digits to the base 2^24 as the bytes say -/
theorem digs3_len (n : Nat) : (digs 16777216 n).length = ((digs 256 n).length + 2) / 3 := by
  rcases Nat.eq_zero_or_pos n with h | h
  · subst h; rw [digs_zero, digs_zero]; rfl
  · have h1 := lt_pow_digs (B := 256) (by decide) n
    have hne : (digs 256 n).length ≠ 0 := fun h0 => by
      have := (digs_nil_iff (B := 256) (by decide) n).1 (List.eq_nil_of_length_eq_zero h0); omega
    have h2 := pow_le_of_digs (B := 256) (by decide) (n := n) (k := (digs 256 n).length - 1) (by omega)
    generalize (digs 256 n).length = m at *
    have u : (digs 16777216 n).length ≤ (m + 2) / 3 := by
      refine digs_length_le (by decide) (Nat.lt_of_lt_of_le h1 ?_)
      rw [pow24]
      exact Nat.pow_le_pow_right (by decide) (by omega)
    have l : (m + 2) / 3 ≤ (digs 16777216 n).length := by
      apply Nat.le_of_not_lt
      intro hlt
      have h3 := lt_pow_digs (B := 16777216) (by decide) n
      have h4 : 16777216 ^ (digs 16777216 n).length ≤ 256 ^ (m - 1) := by
        rw [pow24]
        exact Nat.pow_le_pow_right (by decide) (by omega)
      omega
    omega
/-- a full list of digits is the digits -/
theorem digs_full {M n : Nat} (hM : 2 ≤ M) {zs : List Nat} (d : Dig M zs) (hv : val M zs = n) (hl : (digs M n).length = zs.length) : digs M n = zs := by
  have h := digs_val hM d
  rw [hv] at h
  rw [h, trimL_take, ← h, hl, List.take_length]
end Go.Proofs.YtboolbcckfldaaaDoor

namespace Go.Proofs.YtboolbcckfldaaaDoor
set_option linter.unusedVariables false

/-- a number out of its bytes, the first the greatest -/
def be (l : List UInt8) : Nat := l.foldl (fun n c => n * 256 + c.toNat) 0
theorem be_nil : be [] = 0 := rfl
theorem be_snoc (l : List UInt8) (c : UInt8) : be (l ++ [c]) = be l * 256 + c.toNat := by
  unfold be; rw [List.foldl_append]; rfl
theorem be_rev : ∀ l : List UInt8, be l.reverse = val 256 (l.map UInt8.toNat)
  | [] => rfl
  | c :: l => by
    rw [List.reverse_cons, be_snoc, be_rev l, List.map_cons]
    simp only [val]; omega
theorem sv_be (s : ByteArray) : sv s = be s.data.toList := by
  unfold sv rb
  rw [← List.map_reverse, ← be_rev, List.reverse_reverse]
theorem be_lt (l : List UInt8) : be l < 256 ^ l.length := by
  have h := be_rev l.reverse
  rw [List.reverse_reverse] at h
  rw [h]
  have hd : Dig 256 (l.reverse.map UInt8.toNat) := fun x hx => by
    obtain ⟨c, _, rfl⟩ := List.mem_map.1 hx
    exact c.toNat_lt
  have := val_lt hd
  simpa using this
theorem be_take (s : ByteArray) (k : Nat) (h : k < s.size) : be (s.data.toList.take (k + 1)) = be (s.data.toList.take k) * 256 + s[k].toNat := by
  rw [List.take_succ_eq_append_getElem (by simpa using h), be_snoc]; rfl
theorem be_take_lt (s : ByteArray) (k : Nat) : be (s.data.toList.take k) < 256 ^ k := by
  have h := be_lt (s.data.toList.take k)
  exact Nat.lt_of_lt_of_le h (Nat.pow_le_pow_right (by decide) (by simp; omega))
theorem be_take_all (s : ByteArray) (k : Nat) (h : s.size ≤ k) : be (s.data.toList.take k) = sv s := by
  rw [List.take_of_length_le (by simpa using h), sv_be]
theorem pow256_7 {k : Nat} (h : k ≤ 7) : 256 ^ k ≤ 72057594037927936 := by
  have := Nat.pow_le_pow_right (n := 256) (by decide) h
  simpa using this

/-- Euclid -/
theorem gcd_step (x y : Nat) : Nat.gcd x y = Nat.gcd y (x % y) := by
  rw [Nat.gcd_comm x y, Nat.gcd_rec y x, Nat.gcd_comm]
end Go.Proofs.YtboolbcckfldaaaDoor
