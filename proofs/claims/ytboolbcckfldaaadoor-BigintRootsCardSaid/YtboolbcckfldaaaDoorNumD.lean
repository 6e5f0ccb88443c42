/- The bytes of a number: its string, the most significant byte first. Plain mathematics. -/
import Derived.Test.YtboolbcckfldaaaDoorNumC
namespace Go.Proofs.YtboolbcckfldaaaDoor
set_option linter.unusedVariables false

/-- the string of a number: its bytes, the most significant one first, without zeros at the beginning -/
def magB (n : Nat) : ByteArray := ⟨((digs 256 n).reverse.map UInt8.ofNat).toArray⟩

theorem rb_mk (l : List Nat) (h : Dig 256 l) : rb ⟨(l.reverse.map UInt8.ofNat).toArray⟩ = l := by
  unfold rb
  simp only [List.map_reverse, List.reverse_reverse, List.map_map]
  have : l.map (UInt8.toNat ∘ UInt8.ofNat) = l.map id := by
    apply List.map_congr_left
    intro x hx
    have := h x hx
    simp only [Function.comp, id]
    rw [UInt8.toNat_ofNat']
    omega
  simpa using this

theorem sv_magB (n : Nat) : sv (magB n) = n := by
  unfold sv magB
  rw [rb_mk _ (digs_Dig (by decide) n), val_digs (by decide)]

theorem map_ofNat_toNat (l : List UInt8) : (l.map UInt8.toNat).map UInt8.ofNat = l := by
  rw [List.map_map]
  conv => rhs; rw [← List.map_id l]
  apply List.map_congr_left
  intro x _
  simp

theorem size_magB (n : Nat) : (magB n).size = (digs 256 n).length := by
  have : (magB n).size = ((digs 256 n).reverse.map UInt8.ofNat).length := rfl
  rw [this]; simp

theorem magB_zero : magB 0 = ⟨#[]⟩ := by simp [magB, digs_zero]

/-- a string without a zero at its beginning is that of its number -/
theorem magB_sv (s : ByteArray) (h : trimL (rb s) = rb s) : magB (sv s) = s := by
  unfold magB sv
  rw [digs_val (by decide) (rb_Dig s), h]
  unfold rb
  rw [List.reverse_reverse, map_ofNat_toNat]

/-- the four bytes of each word, the least significant ones first -/
def le4 (xs : List Nat) : List Nat := xs.flatMap fun x => [x % 256, x / 256 % 256, x / 65536 % 256, x / 16777216 % 256]
theorem le4_Dig (xs : List Nat) : Dig 256 (le4 xs) := fun y hy => by
  simp only [le4, List.mem_flatMap, List.mem_cons, List.not_mem_nil, or_false] at hy
  obtain ⟨x, _, h⟩ := hy
  omega
theorem val_le4 (xs : List Nat) (h : Dig 4294967296 xs) : val 256 (le4 xs) = val 4294967296 xs := by
  induction xs with
  | nil => rfl
  | cons x xs ih =>
    have h1 := ih h.tail
    have h2 := h.head
    have : le4 (x :: xs) = [x % 256, x / 256 % 256, x / 65536 % 256, x / 16777216 % 256] ++ le4 xs := by simp [le4]
    rw [this, val_append, h1]
    simp only [val, List.length_cons, List.length_nil]
    omega
theorem le4_length (xs : List Nat) : (le4 xs).length = 4 * xs.length := by
  induction xs with
  | nil => rfl
  | cons x xs ih =>
    have : le4 (x :: xs) = [x % 256, x / 256 % 256, x / 65536 % 256, x / 16777216 % 256] ++ le4 xs := by simp [le4]
    rw [this, List.length_append, ih]; simp; omega
theorem le4_drop (xs : List Nat) (m : Nat) (h : m < xs.length) : (le4 (xs.drop m)).reverse = (le4 (xs.drop (m + 1))).reverse ++ [gd xs m / 16777216 % 256, gd xs m / 65536 % 256, gd xs m / 256 % 256, gd xs m % 256] := by
  rw [List.drop_eq_getElem_cons h]
  have : ∀ x (ys : List Nat), le4 (x :: ys) = [x % 256, x / 256 % 256, x / 65536 % 256, x / 16777216 % 256] ++ le4 ys := fun x ys => by simp [le4]
  rw [this, gd_get h]
  simp

/-- zeros at the end are what is dropped at the beginning of the reversed list -/
theorem dropWhile_reverse (xs : List Nat) : (xs.reverse.dropWhile (· == 0)) = (trimL xs).reverse := by
  induction xs with
  | nil => rfl
  | cons x xs ih =>
    rw [List.reverse_cons, List.dropWhile_append, ih]
    simp only [trimL]
    by_cases h : trimL xs = []
    · rw [h]
      by_cases hx : x = 0
      · subst hx; simp
      · simp [hx]
    · rw [if_neg h]
      have : (trimL xs).reverse ≠ [] := by simpa using h
      rw [if_neg (by simpa using this), List.reverse_cons]

/-- an integer's sign and the bytes of its absolute value -/
def sg (z : Int) : Bool := decide (z < 0)
def mg (z : Int) : ByteArray := magB z.natAbs

/-- a sign and bytes are an integer's valid form -/
def vld (n : Bool) (s : ByteArray) : Bool := if h : 0 < s.size then s[0] != 0 else !n
/-- the integer with a sign and bytes -/
def ival (n : Bool) (s : ByteArray) : Int := if n then -(sv s : Int) else (sv s : Int)

theorem dropWhile_none {l : List UInt8} (h : ∀ c, l.head? = some c → c ≠ 0) : l.dropWhile (· == 0) = l := by
  cases l with
  | nil => rfl
  | cons c l => rw [List.dropWhile_cons, if_neg (by simpa using h c rfl)]

theorem rb_trim (s : ByteArray) (h : ∀ h : 0 < s.size, s[0] ≠ 0) : trimL (rb s) = rb s := by
  have h1 := dropWhile_reverse (rb s)
  have h2 : (rb s).reverse.dropWhile (· == 0) = (rb s).reverse := by
    unfold rb
    rw [List.reverse_reverse]
    cases hl : s.data.toList with
    | nil => rfl
    | cons c l =>
      have hs : 0 < s.size := by
        have : s.data.toList.length = s.size := by simp
        rw [hl] at this; simp at this; omega
      have hc : s[0] = c := by
        have : s[0] = s.data.toList[0]'(by rw [hl]; simp) := rfl
        rw [this]; simp [hl]
      have := h hs
      rw [hc] at this
      rw [List.map_cons, List.dropWhile_cons, if_neg]
      simp only [beq_iff_eq]
      intro e
      exact this (UInt8.toNat_inj.1 (by rw [e]; rfl))
  rw [h2] at h1
  have := congrArg List.reverse h1
  rw [List.reverse_reverse, List.reverse_reverse] at this
  exact this.symm

theorem magB_first (n : Nat) (h : 0 < (magB n).size) : (magB n)[0] ≠ 0 := by
  intro e
  have h1 : trimL (rb (magB n)) = rb (magB n) := by
    unfold magB; rw [rb_mk _ (digs_Dig (by decide) n), trimL_digs (by decide)]
  have h2 := dropWhile_reverse (rb (magB n))
  rw [h1] at h2
  have h3 : (rb (magB n)).reverse = (magB n).data.toList.map UInt8.toNat := by unfold rb; rw [List.reverse_reverse]
  rw [h3] at h2
  cases hl : (magB n).data.toList with
  | nil =>
    have : (magB n).data.toList.length = (magB n).size := by simp
    rw [hl] at this; simp at this; omega
  | cons c l =>
    have hc : (magB n)[0] = c := by
      have : (magB n)[0] = (magB n).data.toList[0]'(by rw [hl]; simp) := rfl
      rw [this]; simp [hl]
    rw [hc] at e
    subst e
    rw [hl] at h2
    have := congrArg List.length h2
    simp only [List.map_cons, List.dropWhile_cons, show (UInt8.toNat 0 == 0) = true from rfl, if_true] at this
    have h4 := (List.dropWhile_sublist (fun x : Nat => x == 0) (l := l.map UInt8.toNat)).length_le
    simp only [List.length_cons, List.length_map] at this h4
    omega

theorem vld_sg (z : Int) : vld (sg z) (mg z) = true := by
  unfold vld
  by_cases h : 0 < (mg z).size
  · rw [dif_pos h]
    rw [bne_iff_ne]
    exact magB_first z.natAbs h
  · rw [dif_neg h]
    have : (digs 256 z.natAbs).length = 0 := by
      have := size_magB z.natAbs
      unfold mg at h; omega
    have h0 : z.natAbs = 0 := (digs_nil_iff (B := 256) (by decide) _).1 (List.eq_nil_of_length_eq_zero this)
    have : z = 0 := by omega
    subst this; rfl

theorem vld_form {n : Bool} {s : ByteArray} (h : vld n s = true) : n = sg (ival n s) ∧ s = mg (ival n s) := by
  have hs : magB (sv s) = s := magB_sv s (rb_trim s fun h0 => by
    unfold vld at h; rw [dif_pos h0] at h; simpa using h)
  have hn : (ival n s).natAbs = sv s := by unfold ival; cases n <;> simp
  refine ⟨?_, by unfold mg; rw [hn, hs]⟩
  unfold sg ival
  cases n with
  | false => simp
  | true =>
    have hpos : sv s ≠ 0 := fun e => by
      rw [e, magB_zero] at hs
      rw [← hs] at h
      exact absurd h (by decide)
    simp; omega

theorem ival_sg (z : Int) : ival (sg z) (mg z) = z := by
  unfold ival sg mg
  rw [sv_magB]
  by_cases h : z < 0
  · simp [h]; omega
  · simp [h]; omega

theorem mg_size_zero (z : Int) : (mg z).size = 0 ↔ z = 0 := by
  unfold mg
  rw [size_magB]
  constructor
  · intro h
    have := (digs_nil_iff (B := 256) (by decide) _).1 (List.eq_nil_of_length_eq_zero h)
    omega
  · rintro rfl; simp [digs_zero]
theorem mg_zero : mg 0 = ⟨#[]⟩ := magB_zero
theorem sv_mg (z : Int) : sv (mg z) = z.natAbs := sv_magB _
theorem mg_neg (z : Int) : mg (-z) = mg z := by unfold mg; rw [Int.natAbs_neg]
theorem sg_mg_inj {x y : Int} (h : sg x = sg y) (h' : mg x = mg y) : x = y := by rw [← ival_sg x, ← ival_sg y, h, h']

/-- how many bytes an integer has -/
def Bd (k : Nat) (z : Int) : Prop := z.natAbs < 256 ^ k
theorem Bd.mono {a b : Nat} {z : Int} (h : Bd a z) (hab : a ≤ b) : Bd b z := Nat.lt_of_lt_of_le h (Nat.pow_le_pow_right (by decide) hab)
theorem Bd.size {k : Nat} {z : Int} (h : Bd k z) : (mg z).size ≤ k := by
  unfold mg; rw [size_magB]; exact digs_length_le (by decide) h
theorem Bd.digs {k : Nat} {z : Int} (h : Bd k z) : (digs 4294967296 z.natAbs).length ≤ k := by
  apply digs_length_le (by decide)
  exact Nat.lt_of_lt_of_le h (Nat.pow_le_pow_left (by decide) k)
theorem Bd.digs24 {k : Nat} {z : Int} (h : Bd k z) : (Go.Proofs.YtboolbcckfldaaaDoor.digs 16777216 z.natAbs).length ≤ k := by
  apply digs_length_le (by decide)
  exact Nat.lt_of_lt_of_le h (Nat.pow_le_pow_left (by decide) k)
theorem Bd.of_size (z : Int) : Bd (mg z).size z := by
  unfold Bd mg; rw [size_magB]; exact lt_pow_digs (by decide) _
theorem Bd.neg {k : Nat} {z : Int} (h : Bd k z) : Bd k (-z) := by unfold Bd at *; rwa [Int.natAbs_neg]
theorem Bd.mul {a b : Nat} {x y : Int} (h : Bd a x) (h' : Bd b y) : Bd (a + b) (x * y) := by
  unfold Bd at *
  rw [Int.natAbs_mul, Nat.pow_add]
  exact Nat.mul_lt_mul'' h h'
theorem Bd.add {a : Nat} {x y : Int} (h : Bd a x) (h' : Bd a y) : Bd (a + 1) (x + y) := by
  unfold Bd at *
  have h1 := Int.natAbs_add_le x y
  rw [Nat.pow_succ]
  omega
theorem Bd.sub {a : Nat} {x y : Int} (h : Bd a x) (h' : Bd a y) : Bd (a + 1) (x - y) := by
  rw [Int.sub_eq_add_neg]; exact h.add h'.neg
theorem Bd.zero (k : Nat) : Bd k 0 := Nat.pow_pos (by decide)
theorem Bd.le {k : Nat} {x y : Int} (h : Bd k x) (h' : y.natAbs ≤ x.natAbs) : Bd k y := Nat.lt_of_le_of_lt h' h

end Go.Proofs.YtboolbcckfldaaaDoor
