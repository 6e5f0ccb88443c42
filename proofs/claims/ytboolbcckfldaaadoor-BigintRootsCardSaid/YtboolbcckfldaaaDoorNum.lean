/- Natural numbers and their digits to a base: lists of digits with the least one first, trimming, values. Plain mathematics, no program. -/
namespace Go.Proofs.YtboolbcckfldaaaDoor

/-- the value of digits to the base B, the least one first -/
def val (B : Nat) : List Nat → Nat
  | [] => 0
  | x :: xs => x + B * val B xs

/-- the digit at a place, 0 behind the end -/
def gd (xs : List Nat) (i : Nat) : Nat := xs.getD i 0
theorem gd_eq (xs : List Nat) (i : Nat) : gd xs i = xs.getD i 0 := rfl

def Dig (B : Nat) (xs : List Nat) : Prop := ∀ x, x ∈ xs → x < B

/-- zeros at the end are taken away -/
def trimL : List Nat → List Nat
  | [] => []
  | x :: xs => if trimL xs = [] then (if x = 0 then [] else [x]) else x :: trimL xs

def digsF (B : Nat) : Nat → Nat → List Nat
  | 0, _ => []
  | f + 1, n => if n = 0 then [] else n % B :: digsF B f (n / B)
def digs (B n : Nat) : List Nat := digsF B n n

theorem val_append (B : Nat) (xs ys : List Nat) : val B (xs ++ ys) = val B xs + B ^ xs.length * val B ys := by
  induction xs with
  | nil => simp [val]
  | cons x xs ih => simp only [List.cons_append, val, ih, List.length_cons, Nat.pow_succ]; rw [Nat.mul_add, Nat.add_assoc]; congr 2; rw [← Nat.mul_assoc]; congr 1; exact Nat.mul_comm _ _

theorem Dig.tail {B x : Nat} {xs : List Nat} (h : Dig B (x :: xs)) : Dig B xs := fun y hy => h y (List.mem_cons_of_mem _ hy)
theorem Dig.head {B x : Nat} {xs : List Nat} (h : Dig B (x :: xs)) : x < B := h x (List.mem_cons_self)
theorem Dig.nil (B : Nat) : Dig B [] := fun _ h => by cases h
theorem Dig.cons {B x : Nat} {xs : List Nat} (h : x < B) (h' : Dig B xs) : Dig B (x :: xs) := fun y hy => by
  rcases List.mem_cons.1 hy with e | e
  · exact e ▸ h
  · exact h' y e
theorem Dig.append {B : Nat} {xs ys : List Nat} (h : Dig B xs) (h' : Dig B ys) : Dig B (xs ++ ys) := fun y hy => (List.mem_append.1 hy).elim (h y) (h' y)
theorem Dig.take {B : Nat} {xs : List Nat} (h : Dig B xs) (k : Nat) : Dig B (xs.take k) := fun y hy => h y (List.mem_of_mem_take hy)
theorem Dig.drop {B : Nat} {xs : List Nat} (h : Dig B xs) (k : Nat) : Dig B (xs.drop k) := fun y hy => h y (List.mem_of_mem_drop hy)
theorem Dig.replicate {B : Nat} (h : 0 < B) (k : Nat) : Dig B (List.replicate k 0) := fun y hy => by rw [List.eq_of_mem_replicate hy]; exact h
theorem Dig.gd {B : Nat} {xs : List Nat} (h : Dig B xs) (hB : 0 < B) (i : Nat) : gd xs i < B := by
  rw [gd_eq, List.getD_eq_getElem?_getD]
  by_cases hi : i < xs.length
  · simp only [List.getElem?_eq_getElem hi, Option.getD_some]; exact h _ (List.getElem_mem hi)
  · simp only [List.getElem?_eq_none (Nat.le_of_not_lt hi), Option.getD_none]; exact hB
theorem Dig.set {B : Nat} {xs : List Nat} (h : Dig B xs) (i x : Nat) (hx : x < B) : Dig B (xs.set i x) := fun y hy => by
  rcases List.mem_or_eq_of_mem_set hy with e | e
  · exact h y e
  · exact e ▸ hx

theorem val_lt {B : Nat} {xs : List Nat} (h : Dig B xs) : val B xs < B ^ xs.length := by
  induction xs with
  | nil => simp [val]
  | cons x xs ih =>
    have h1 := ih h.tail
    have h2 := h.head
    simp only [val, List.length_cons, Nat.pow_succ]
    have : B * (val B xs + 1) ≤ B * B ^ xs.length := Nat.mul_le_mul_left _ h1
    rw [Nat.mul_comm (B ^ xs.length) B]
    rw [Nat.mul_add] at this
    omega

theorem trimL_nil_iff (xs : List Nat) : trimL xs = [] ↔ ∀ x, x ∈ xs → x = 0 := by
  induction xs with
  | nil => simp [trimL]
  | cons x xs ih =>
    simp only [trimL, List.mem_cons, forall_eq_or_imp]
    by_cases h : trimL xs = []
    · rw [if_pos h]
      by_cases hx : x = 0
      · rw [if_pos hx]; exact ⟨fun _ => ⟨hx, ih.1 h⟩, fun _ => rfl⟩
      · simp [hx]
    · rw [if_neg h]
      simp only [reduceCtorEq, false_iff, not_and]
      exact fun _ hh => h (ih.2 hh)

theorem val_trimL (B : Nat) (xs : List Nat) : val B (trimL xs) = val B xs := by
  induction xs with
  | nil => rfl
  | cons x xs ih =>
    simp only [trimL]
    by_cases h : trimL xs = []
    · rw [if_pos h]
      rw [h] at ih
      simp only [val] at ih
      by_cases hx : x = 0
      · simp [hx, val, ← ih]
      · simp [hx, val, ← ih]
    · rw [if_neg h]; simp [val, ih]

theorem trimL_take (xs : List Nat) : trimL xs = xs.take (trimL xs).length := by
  induction xs with
  | nil => rfl
  | cons x xs ih =>
    simp only [trimL]
    by_cases h : trimL xs = []
    · rw [if_pos h]
      by_cases hx : x = 0 <;> simp [hx]
    · rw [if_neg h]; simp only [List.length_cons, List.take_succ_cons]; rw [← ih]

theorem trimL_length_le (xs : List Nat) : (trimL xs).length ≤ xs.length := by
  have h := congrArg List.length (trimL_take xs)
  rw [List.length_take] at h
  omega

theorem trimL_snoc_zero (xs : List Nat) : trimL (xs ++ [0]) = trimL xs := by
  induction xs with
  | nil => simp [trimL]
  | cons x xs ih => simp only [List.cons_append, trimL, ih]

theorem trimL_snoc_pos (xs : List Nat) (x : Nat) (h : x ≠ 0) : trimL (xs ++ [x]) = xs ++ [x] := by
  induction xs with
  | nil => simp [trimL, h]
  | cons y xs ih => simp only [List.cons_append, trimL, ih]; rw [if_neg (by simp)]

theorem Dig.trimL {B : Nat} {xs : List Nat} (h : Dig B xs) : Dig B (trimL xs) := by rw [trimL_take]; exact h.take _

theorem trimL_idem (xs : List Nat) : trimL (trimL xs) = trimL xs := by
  induction xs with
  | nil => rfl
  | cons x xs ih =>
    simp only [trimL]
    by_cases h : trimL xs = []
    · rw [if_pos h]
      by_cases hx : x = 0
      · simp [hx, trimL]
      · simp [hx, trimL]
    · rw [if_neg h]; simp only [trimL, ih]; rw [if_neg h]

theorem digsF_zero (B f : Nat) : digsF B f 0 = [] := by cases f <;> simp [digsF]

theorem digsF_enough (B : Nat) (hB : 2 ≤ B) : ∀ f g n, n ≤ f → n ≤ g → digsF B f n = digsF B g n := by
  intro f
  induction f with
  | zero => intro g n h1 h2; have : n = 0 := by omega
            subst this; simp [digsF_zero]
  | succ f ih =>
    intro g n h1 h2
    cases g with
    | zero => have : n = 0 := by omega
              subst this; simp [digsF_zero]
    | succ g =>
      simp only [digsF]
      by_cases h : n = 0
      · simp [h]
      · rw [if_neg h, if_neg h]
        have : n / B < n := Nat.div_lt_self (by omega) (by omega)
        rw [ih g (n / B) (by omega) (by omega)]

theorem digs_zero (B : Nat) : digs B 0 = [] := by simp [digs, digsF]
theorem digs_step {B n : Nat} (hB : 2 ≤ B) (h : n ≠ 0) : digs B n = n % B :: digs B (n / B) := by
  unfold digs
  obtain ⟨m, rfl⟩ : ∃ m, n = m + 1 := ⟨n - 1, by omega⟩
  have hlt : (m + 1) / B < m + 1 := Nat.div_lt_self (by omega) (by omega)
  simp only [digsF]
  rw [if_neg (by omega), digsF_enough B hB m ((m+1)/B) ((m+1)/B) (by omega) (by omega)]

theorem digs_Dig {B : Nat} (hB : 2 ≤ B) (n : Nat) : Dig B (digs B n) := by
  induction n using Nat.strongRecOn with
  | _ n ih =>
    by_cases h : n = 0
    · subst h; rw [digs_zero]; exact Dig.nil B
    · rw [digs_step hB h]
      exact Dig.cons (Nat.mod_lt _ (by omega)) (ih _ (Nat.div_lt_self (by omega) (by omega)))

theorem val_digs {B : Nat} (hB : 2 ≤ B) (n : Nat) : val B (digs B n) = n := by
  induction n using Nat.strongRecOn with
  | _ n ih =>
    by_cases h : n = 0
    · subst h; rw [digs_zero]; rfl
    · rw [digs_step hB h]; simp only [val]
      rw [ih _ (Nat.div_lt_self (by omega) (by omega))]; exact Nat.mod_add_div n B

theorem digs_val {B : Nat} (hB : 2 ≤ B) {xs : List Nat} (h : Dig B xs) : digs B (val B xs) = trimL xs := by
  induction xs with
  | nil => simp [val, trimL, digs_zero]
  | cons x xs ih =>
    have h1 := ih h.tail
    have hx := h.head
    simp only [val, trimL]
    by_cases h0 : x + B * val B xs = 0
    · have hx0 : x = 0 := by omega
      have hv : val B xs = 0 := by
        rcases Nat.mul_eq_zero.1 (show B * val B xs = 0 by omega) with e | e
        · omega
        · exact e
      rw [hv, digs_zero] at h1
      simp [hx0, hv, digs_zero, ← h1]
    · rw [digs_step hB h0, Nat.add_mul_mod_self_left, Nat.mod_eq_of_lt hx, Nat.add_mul_div_left _ _ (by omega : 0 < B), Nat.div_eq_of_lt hx, Nat.zero_add, h1]
      by_cases ht : trimL xs = []
      · rw [if_pos ht, ht]
        have hv : val B xs = 0 := by rw [← val_trimL, ht]; rfl
        have hx0 : x ≠ 0 := by intro e; rw [e, hv] at h0; simp at h0
        rw [if_neg hx0]
      · rw [if_neg ht]

theorem digs_nil_iff {B : Nat} (hB : 2 ≤ B) (n : Nat) : digs B n = [] ↔ n = 0 := by
  constructor
  · intro h; rw [← val_digs hB n, h]; rfl
  · rintro rfl; exact digs_zero B

theorem trimL_digs {B : Nat} (hB : 2 ≤ B) (n : Nat) : trimL (digs B n) = digs B n := by
  have := digs_val hB (digs_Dig hB n)
  rw [val_digs hB] at this
  exact this.symm

theorem lt_pow_digs {B : Nat} (hB : 2 ≤ B) (n : Nat) : n < B ^ (digs B n).length := by
  have := val_lt (digs_Dig hB n)
  rwa [val_digs hB] at this

theorem digs_length_le {B : Nat} (hB : 2 ≤ B) {n k : Nat} (h : n < B ^ k) : (digs B n).length ≤ k := by
  induction k generalizing n with
  | zero => have : n = 0 := by simpa using h
            subst this; simp [digs_zero]
  | succ k ih =>
    by_cases h0 : n = 0
    · subst h0; simp [digs_zero]
    · rw [digs_step hB h0, List.length_cons]
      have : n / B < B ^ k := by
        rw [Nat.div_lt_iff_lt_mul (by omega)]; rwa [Nat.pow_succ] at h
      have := ih this
      omega

theorem pow_le_of_digs {B : Nat} (hB : 2 ≤ B) {n k : Nat} (h : k < (digs B n).length) : B ^ k ≤ n := by
  rcases Nat.lt_or_ge n (B ^ k) with h' | h'
  · have := digs_length_le hB h'; omega
  · exact h'

/-- the highest digit is not 0 -/
theorem digs_last {B : Nat} (hB : 2 ≤ B) (n : Nat) (h : n ≠ 0) : gd (digs B n) ((digs B n).length - 1) ≠ 0 := by
  rw [gd_eq]
  induction n using Nat.strongRecOn with
  | _ n ih =>
    rw [digs_step hB h]
    by_cases h1 : n / B = 0
    · rw [h1, digs_zero]; simp only [List.length_cons, List.length_nil, Nat.zero_add, Nat.sub_self, List.getD_cons_zero]
      intro e
      have := Nat.mod_add_div n B
      rw [e, h1] at this; omega
    · have := ih _ (Nat.div_lt_self (by omega) (by omega)) h1
      have hne : digs B (n / B) ≠ [] := fun e => h1 ((digs_nil_iff hB _).1 e)
      have hl : 0 < (digs B (n / B)).length := List.length_pos_iff.2 hne
      obtain ⟨m, hm⟩ : ∃ m, (digs B (n/B)).length = m + 1 := ⟨_, (Nat.sub_add_cancel hl).symm⟩
      rw [hm] at this
      simp only [List.length_cons, hm, Nat.add_sub_cancel] at this ⊢
      simpa using this

theorem val_take_succ (B : Nat) (xs : List Nat) (k : Nat) (h : k < xs.length) : val B (xs.take (k + 1)) = val B (xs.take k) + B ^ k * gd xs k := by
  rw [gd_eq]
  rw [List.take_succ_eq_append_getElem h, val_append, List.length_take, Nat.min_eq_left (Nat.le_of_lt h)]
  simp [val, List.getD_eq_getElem?_getD, List.getElem?_eq_getElem h]

theorem val_drop (B : Nat) (xs : List Nat) (k : Nat) (h : k < xs.length) : val B (xs.drop k) = gd xs k + B * val B (xs.drop (k + 1)) := by
  rw [gd_eq]
  rw [List.drop_eq_getElem_cons h]
  simp [val, List.getD_eq_getElem?_getD, List.getElem?_eq_getElem h]

theorem val_split (B : Nat) (xs : List Nat) (k : Nat) (h : k ≤ xs.length) : val B xs = val B (xs.take k) + B ^ k * val B (xs.drop k) := by
  conv => lhs; rw [← List.take_append_drop k xs]
  rw [val_append, List.length_take, Nat.min_eq_left h]

theorem val_replicate (B k : Nat) : val B (List.replicate k 0) = 0 := by
  induction k with
  | zero => rfl
  | succ k ih => simp [List.replicate_succ, val, ih]

theorem val_digs_drop {B : Nat} (hB : 2 ≤ B) (n k : Nat) : val B ((digs B n).drop k) = n / B ^ k := by
  rcases Nat.lt_or_ge k (digs B n).length with h | h
  · have h1 := val_split B (digs B n) k (Nat.le_of_lt h)
    rw [val_digs hB] at h1
    have h2 : val B ((digs B n).take k) < B ^ k := by
      have := val_lt ((digs_Dig hB n).take k)
      rwa [List.length_take, Nat.min_eq_left (Nat.le_of_lt h)] at this
    have : n / B ^ k = (val B ((digs B n).take k) + B ^ k * val B ((digs B n).drop k)) / B ^ k := by rw [← h1]
    rw [this, Nat.add_mul_div_left _ _ (by omega), Nat.div_eq_of_lt h2]; omega
  · rw [List.drop_eq_nil_of_le h]
    have := lt_pow_digs hB n
    have h3 : B ^ (digs B n).length ≤ B ^ k := Nat.pow_le_pow_right (by omega) h
    rw [Nat.div_eq_of_lt (by omega)]; rfl

theorem val_digs_take {B : Nat} (hB : 2 ≤ B) (n k : Nat) : val B ((digs B n).take k) = n % B ^ k := by
  rcases Nat.lt_or_ge k (digs B n).length with h | h
  · have h1 := val_split B (digs B n) k (Nat.le_of_lt h)
    rw [val_digs hB] at h1
    have h2 : val B ((digs B n).take k) < B ^ k := by
      have := val_lt ((digs_Dig hB n).take k)
      rwa [List.length_take, Nat.min_eq_left (Nat.le_of_lt h)] at this
    have : n % B ^ k = (val B ((digs B n).take k) + B ^ k * val B ((digs B n).drop k)) % B ^ k := by rw [← h1]
    rw [this, Nat.add_mul_mod_self_left, Nat.mod_eq_of_lt h2]
  · rw [List.take_of_length_le h, val_digs hB]
    have := lt_pow_digs hB n
    have h3 : B ^ (digs B n).length ≤ B ^ k := Nat.pow_le_pow_right (by omega) h
    rw [Nat.mod_eq_of_lt (by omega)]

theorem digs_gd {B : Nat} (hB : 2 ≤ B) (n k : Nat) : gd (digs B n) k = n / B ^ k % B := by
  rcases Nat.lt_or_ge k (digs B n).length with h | h
  · have h1 := val_drop B (digs B n) k h
    rw [val_digs_drop hB] at h1
    rw [h1, Nat.add_mul_mod_self_left, Nat.mod_eq_of_lt ((digs_Dig hB n).gd (by omega) k)]
  · rw [gd_eq, List.getD_eq_getElem?_getD, List.getElem?_eq_none h]
    have := lt_pow_digs hB n
    have h3 : B ^ (digs B n).length ≤ B ^ k := Nat.pow_le_pow_right (by omega) h
    rw [Nat.div_eq_of_lt (by omega)]; simp

theorem gd_take {xs : List Nat} {n i : Nat} (h : i < n) : gd (xs.take n) i = gd xs i := by
  simp [gd, List.getD_eq_getElem?_getD, h]
theorem gd_drop (xs : List Nat) (n i : Nat) : gd (xs.drop n) i = gd xs (n + i) := by
  simp [gd, List.getD_eq_getElem?_getD]
theorem gd_set_eq {xs : List Nat} {i : Nat} (x : Nat) (h : i < xs.length) : gd (xs.set i x) i = x := by
  simp [gd, List.getD_eq_getElem?_getD, h]
theorem gd_set_ne (xs : List Nat) {i j : Nat} (x : Nat) (h : i ≠ j) : gd (xs.set i x) j = gd xs j := by
  simp [gd, List.getD_eq_getElem?_getD, List.getElem?_set_ne h]
theorem gd_behind {xs : List Nat} {i : Nat} (h : xs.length ≤ i) : gd xs i = 0 := by
  simp [gd, List.getD_eq_getElem?_getD, List.getElem?_eq_none h]
theorem gd_append_left {xs ys : List Nat} {i : Nat} (h : i < xs.length) : gd (xs ++ ys) i = gd xs i := by
  simp [gd, List.getD_eq_getElem?_getD, List.getElem?_append_left h]
theorem gd_append_right {xs ys : List Nat} {i : Nat} (h : xs.length ≤ i) : gd (xs ++ ys) i = gd ys (i - xs.length) := by
  simp [gd, List.getD_eq_getElem?_getD, List.getElem?_append_right h]
theorem gd_replicate (k i : Nat) : gd (List.replicate k 0) i = 0 := by
  simp only [gd, List.getD_eq_getElem?_getD, List.getElem?_replicate]
  split <;> rfl
theorem gd_get {xs : List Nat} {i : Nat} (h : i < xs.length) : gd xs i = xs[i] := by
  simp [gd, List.getD_eq_getElem?_getD, h]
theorem ext_gd {xs ys : List Nat} (hl : xs.length = ys.length) (h : ∀ i, i < xs.length → gd xs i = gd ys i) : xs = ys := by
  apply List.ext_getElem hl
  intro i h1 h2
  have := h i h1
  rwa [gd_get h1, gd_get h2] at this

theorem val_take_succ' (B : Nat) (xs : List Nat) (k : Nat) : val B (xs.take (k + 1)) = val B (xs.take k) + B ^ k * gd xs k := by
  by_cases h : k < xs.length
  · exact val_take_succ B xs k h
  · rw [gd_behind (Nat.le_of_not_lt h), List.take_of_length_le (by omega), List.take_of_length_le (by omega)]; simp
theorem take_set_succ {xs : List Nat} {k : Nat} (x : Nat) (h : k < xs.length) : (xs.set k x).take (k + 1) = xs.take k ++ [x] := by
  rw [List.take_succ_eq_append_getElem (by simpa using h)]
  simp [List.take_set_of_le]
theorem val_set_take (B : Nat) {xs : List Nat} {k : Nat} (x : Nat) (h : k < xs.length) : val B ((xs.set k x).take (k + 1)) = val B (xs.take k) + B ^ k * x := by
  rw [take_set_succ x h, val_append, List.length_take, Nat.min_eq_left (Nat.le_of_lt h)]; simp [val]
theorem add_arith (M P cy x y s c' X Y Z : Nat) (h : Z + P * cy = X + Y) (h2 : s + M * c' = x + y + cy) : Z + P * s + P * M * c' = (X + P * x) + (Y + P * y) := by
  have := congrArg (P * ·) h2
  simp only [Nat.mul_add, ← Nat.mul_assoc] at this
  omega
theorem add_step (M : Nat) (zs xs ys : List Nat) (k cy s c' : Nat) (hk : k < zs.length) (h : val M (zs.take k) + M ^ k * cy = val M (xs.take k) + val M (ys.take k)) (h2 : s + M * c' = gd xs k + gd ys k + cy) :
    val M ((zs.set k s).take (k + 1)) + M ^ (k + 1) * c' = val M (xs.take (k + 1)) + val M (ys.take (k + 1)) := by
  rw [val_set_take M s hk, val_take_succ', val_take_succ', Nat.pow_succ]
  exact add_arith M (M ^ k) cy _ _ s c' _ _ _ h h2
/-- the end of an addition: the last digit is the carry -/
theorem add_end {M : Nat} (hM : 2 ≤ M) (zs xs ys : List Nat) (n cy : Nat) (hl : zs.length = n + 1) (hx : xs.length ≤ n) (hy : ys.length ≤ n) (hd : Dig M zs) (hc : cy < M) (h : val M (zs.take n) + M ^ n * cy = val M (xs.take n) + val M (ys.take n)) :
    trimL (zs.set n cy) = digs M (val M xs + val M ys) := by
  have h1 : val M (zs.set n cy) = val M xs + val M ys := by
    have h2 := val_set_take M (xs := zs) (k := n) cy (by omega)
    rw [List.take_of_length_le (by simp; omega)] at h2
    rw [h2, h, List.take_of_length_le hx, List.take_of_length_le hy]
  rw [← h1]
  exact (digs_val hM (hd.set n cy hc)).symm

end Go.Proofs.YtboolbcckfldaaaDoor
