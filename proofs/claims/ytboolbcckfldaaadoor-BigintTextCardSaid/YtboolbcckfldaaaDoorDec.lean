import Derived.Test.YtboolbcckfldaaaDoorRParsB
namespace Go.Proofs.YtboolbcckfldaaaDoor
open Go.RowKit
set_option linter.unusedVariables false
set_option linter.unusedSimpArgs false

/-- the number that a list of digits spells -/
def numL (l : List UInt8) : Nat := l.foldl (fun n c => n * 10 + (c.toNat - 48)) 0
theorem numL_snoc (l : List UInt8) (c : UInt8) : numL (l ++ [c]) = numL l * 10 + (c.toNat - 48) := by
  unfold numL; rw [List.foldl_append]; rfl
def DigL (l : List UInt8) : Prop := ∀ c ∈ l, 48 ≤ c.toNat ∧ c.toNat ≤ 57

theorem numAt_take (l : List UInt8) : ∀ i, i ≤ l.length → numAt ⟨l.toArray⟩ i = numL (l.take i) := by
  intro i
  induction i with
  | zero => intro _; rfl
  | succ i ih =>
    intro h
    rw [numAt, ih (by omega), List.take_succ_eq_append_getElem (by omega), numL_snoc]
    congr 1
    unfold digAt
    rw [dif_pos (by simp [ByteArray.size]; omega)]
    rfl
theorem numAt_all (l : List UInt8) : numAt ⟨l.toArray⟩ (ByteArray.mk l.toArray).size = numL l := by
  rw [str_size, numAt_take l _ (Nat.le_refl _), List.take_length]
theorem allD_iff (l : List UInt8) : AllD ⟨l.toArray⟩ ↔ DigL l := by
  constructor
  · intro h c hc
    obtain ⟨i, hi, rfl⟩ := List.getElem_of_mem hc
    exact h i (by rw [str_size]; exact hi)
  · intro h i hi
    rw [str_size] at hi
    exact h _ (List.getElem_mem hi)
theorem shape_iff (neg : Bool) (l : List UInt8) : shapeB neg ⟨l.toArray⟩ = true ↔ l ≠ [] ∧ (l.head? = some 48 → l.length = 1 ∧ neg = false) := by
  cases l with
  | nil => simp [shapeB, ByteArray.size]
  | cons c l =>
    unfold shapeB
    rw [dif_pos (by rw [str_size]; simp)]
    have e : ((ByteArray.mk (c :: l).toArray)[0]'(by rw [str_size]; simp)).toNat = c.toNat := rfl
    rw [e, str_size]
    have e2 : c = 48 ↔ c.toNat = 48 := ⟨fun h => by rw [h]; rfl, fun h => UInt8.toNat_inj.1 h⟩
    by_cases hc : c.toNat = 48
    · have hc' := e2.2 hc
      cases neg <;> cases l <;> simp [hc, hc']
    · have hc' : ¬ c = 48 := fun h => hc (e2.1 h)
      simp [hc, hc']
theorem dec_numL : ∀ (k : Nat) (l : List UInt8), l.length = k + 1 → DigL l → (l.head? = some 48 → k = 0) → Lib.decDigits (numL l) = l ∧ (l.head? ≠ some 48 → 1 ≤ numL l) := by
  intro k
  induction k with
  | zero =>
    intro l hl hd _
    match l, hl with
    | [c], _ =>
      obtain ⟨c1, c2⟩ := hd c (by simp)
      have e : numL [c] = c.toNat - 48 := by simp [numL]
      rw [e]
      refine ⟨?_, fun h => ?_⟩
      · rw [Lib.decDigits_one (by omega), show 48 + (c.toNat - 48) = c.toNat from by omega, UInt8.ofNat_toNat]
      · have : c.toNat ≠ 48 := fun h' => h (by rw [show c = 48 from UInt8.toNat_inj.1 h']; rfl)
        omega
  | succ k ih =>
    intro l hl hd hz
    have hne : l ≠ [] := by intro h; rw [h] at hl; simp at hl
    obtain ⟨l', c, rfl⟩ : ∃ l' c, l = l' ++ [c] := ⟨l.dropLast, l.getLast hne, (List.dropLast_concat_getLast hne).symm⟩
    rw [List.length_append, List.length_singleton] at hl
    have hl' : l'.length = k + 1 := by omega
    have hh : (l' ++ [c]).head? = l'.head? := by
      cases l' with
      | nil => simp at hl'
      | cons a b => rfl
    rw [hh] at hz ⊢
    have hz' : l'.head? ≠ some 48 := fun h => by have := hz h; omega
    obtain ⟨h1, h2⟩ := ih l' hl' (fun a ha => hd a (by simp [ha])) (fun h => absurd h hz')
    have h3 := h2 hz'
    obtain ⟨c1, c2⟩ := hd c (by simp)
    rw [numL_snoc]
    refine ⟨?_, fun _ => by omega⟩
    rw [dec_big (by omega), show (numL l' * 10 + (c.toNat - 48)) / 10 = numL l' from by omega, show (numL l' * 10 + (c.toNat - 48)) % 10 = c.toNat - 48 from by omega, h1, show 48 + (c.toNat - 48) = c.toNat from by omega, UInt8.ofNat_toNat]
theorem dig_ofNat {r : Nat} (h : r < 10) : (UInt8.ofNat (48 + r)).toNat = 48 + r := by
  rw [UInt8.toNat_ofNat']; omega
theorem numL_dec : ∀ n : Nat, numL (Lib.decDigits n) = n ∧ DigL (Lib.decDigits n) ∧ (1 ≤ n → (Lib.decDigits n).head? ≠ some 48) := by
  intro n
  induction n using Nat.strongRecOn with
  | ind n ih =>
    by_cases h : 10 ≤ n
    · obtain ⟨h1, h2, h3⟩ := ih (n / 10) (by omega)
      have hr : n % 10 < 10 := by omega
      rw [dec_big h]
      refine ⟨?_, ?_, fun _ => ?_⟩
      · rw [numL_snoc, h1, dig_ofNat hr]; omega
      · intro c hc
        rw [List.mem_append, List.mem_singleton] at hc
        rcases hc with hc | rfl
        · exact h2 c hc
        · rw [dig_ofNat hr]; omega
      · have h4 := h3 (by omega)
        have h5 := dec_pos (n / 10)
        cases hl : Lib.decDigits (n / 10) with
        | nil => rw [hl] at h5; simp at h5
        | cons a b => rw [hl] at h4; exact h4
    · have hr : n < 10 := by omega
      rw [Lib.decDigits_one hr]
      refine ⟨?_, ?_, fun h1 => ?_⟩
      · have := numL_snoc [] (UInt8.ofNat (48 + n))
        rw [List.nil_append] at this
        rw [this, dig_ofNat hr]
        simp [numL]
      · intro c hc
        rw [List.mem_singleton] at hc
        rw [hc, dig_ofNat hr]; omega
      · intro e
        have e' : UInt8.ofNat (48 + n) = 48 := by simpa using e
        have := congrArg UInt8.toNat e'
        rw [dig_ofNat hr] at this
        have h48 : (48 : UInt8).toNat = 48 := rfl
        omega

theorem cut_list (l : List UInt8) (h : l.head? ≠ some 45) : cutN ⟨l.toArray⟩ = false ∧ cutT ⟨l.toArray⟩ = ⟨l.toArray⟩ := by
  rcases cut_cases ⟨l.toArray⟩ with ⟨_, _, _, h0, h1⟩ | ⟨h1, h2, _⟩
  · cases l with
    | nil => exact absurd h0 (by decide)
    | cons c l => exact absurd (show (c :: l).head? = some 45 from by rw [show c = 45 from UInt8.toNat_inj.1 h1]; rfl) h
  · exact ⟨h1, h2⟩
theorem cut_minus (l : List UInt8) : cutN ⟨(45 :: l).toArray⟩ = true ∧ cutT ⟨(45 :: l).toArray⟩ = ⟨l.toArray⟩ := by
  have h1 : Lib.hasPrefix (45 :: l) [45] = true := by simp [Lib.hasPrefix, List.isPrefixOf]
  refine ⟨h1, ba_ext ?_⟩
  have h2 : Lib.trimPrefix (45 :: l) [45] = l := by unfold Lib.trimPrefix; rw [h1]; rfl
  simp [cutT, h2]

/-- what is printed parses back -/
theorem parse_itoa (z : Int) (h : (Lib.decDigits z.natAbs).length ≤ 400) : parseE (cutT ⟨(Lib.itoa z).toArray⟩) (cutN ⟨(Lib.itoa z).toArray⟩) = 0 ∧ parseN (cutT ⟨(Lib.itoa z).toArray⟩) (cutN ⟨(Lib.itoa z).toArray⟩) 0 = z := by
  obtain ⟨h1, h2, h3⟩ := numL_dec z.natAbs
  have h4 := dec_pos z.natAbs
  have hne : Lib.decDigits z.natAbs ≠ [] := by intro e; rw [e] at h4; simp at h4
  have key : ∀ neg, (z = 0 → neg = false) → parseE ⟨(Lib.decDigits z.natAbs).toArray⟩ neg = 0 := fun neg hn => by
    have hk : (Lib.decDigits z.natAbs).head? = some 48 → (Lib.decDigits z.natAbs).length = 1 ∧ neg = false := fun e => by
      by_cases hz : z = 0
      · refine ⟨?_, hn hz⟩
        rw [hz, show (0 : Int).natAbs = 0 from rfl, Lib.decDigits_one (by decide)]; rfl
      · exact absurd e (h3 (by omega))
    unfold parseE
    rw [if_pos ⟨(shape_iff _ _).2 ⟨hne, hk⟩, (allD_iff _).2 h2⟩, if_pos (by rw [str_size]; exact h)]
  by_cases hz : z < 0
  · have e : Lib.itoa z = 45 :: Lib.decDigits z.natAbs := by unfold Lib.itoa; rw [if_pos hz]
    obtain ⟨c1, c2⟩ := cut_minus (Lib.decDigits z.natAbs)
    rw [e, c1, c2]
    refine ⟨key true (fun e => by omega), ?_⟩
    unfold parseN
    rw [if_pos rfl, numAt_all, h1]
    unfold sgnd
    first | (simp; omega) | simp
  · have e : Lib.itoa z = Lib.decDigits z.natAbs := by unfold Lib.itoa; rw [if_neg hz, show z.toNat = z.natAbs from by omega]
    obtain ⟨c1, c2⟩ := cut_list (Lib.decDigits z.natAbs) (fun e => by
      obtain ⟨a, ha⟩ : ∃ a, a ∈ (Lib.decDigits z.natAbs).head? := ⟨45, e⟩
      have := h2 45 (List.mem_of_mem_head? e)
      have h48 : (45 : UInt8).toNat = 45 := rfl
      omega)
    rw [e, c1, c2]
    refine ⟨key false (fun _ => rfl), ?_⟩
    unfold parseN
    rw [if_pos rfl, numAt_all, h1]
    unfold sgnd
    first | (simp; omega) | simp

/-- what parses prints back -/
theorem itoa_parse (s : ByteArray) (h : parseE (cutT s) (cutN s) = 0) : (⟨(Lib.itoa (parseN (cutT s) (cutN s) 0)).toArray⟩ : ByteArray) = s ∧ (cutT s).size ≤ 400 ∧ AllD (cutT s) := by
  have hP : shapeB (cutN s) (cutT s) = true ∧ AllD (cutT s) ∧ (cutT s).size ≤ 400 := by
    unfold parseE at h
    by_cases h1 : shapeB (cutN s) (cutT s) = true ∧ AllD (cutT s)
    · rw [if_pos h1] at h
      by_cases h2 : (cutT s).size ≤ 400
      · exact ⟨h1.1, h1.2, h2⟩
      · rw [if_neg h2] at h; exact absurd h (by decide)
    · rw [if_neg h1] at h; exact absurd h (by decide)
  obtain ⟨hs, hd, hl⟩ := hP
  refine ⟨?_, hl, hd⟩
  have main : ∀ (l : List UInt8) (neg : Bool), shapeB neg ⟨l.toArray⟩ = true → AllD ⟨l.toArray⟩ → Lib.itoa (sgnd neg (numL l)) = if neg then 45 :: l else l := fun l neg hs hd => by
    obtain ⟨h1, h2⟩ := (shape_iff _ _).1 hs
    have h3 := (allD_iff _).1 hd
    have h4 : 0 < l.length := List.length_pos_iff.2 h1
    obtain ⟨h5, h6⟩ := dec_numL (l.length - 1) l (by omega) h3 (fun e => by have := (h2 e).1; omega)
    cases neg with
    | false =>
      have e : sgnd false (numL l) = ((numL l : Nat) : Int) := by unfold sgnd; simp
      rw [e, Lib.itoa_nonneg, h5]; rfl
    | true =>
      have h7 := h6 (fun e => by have := (h2 e).2; cases this)
      have e : sgnd true (numL l) = -((numL l : Nat) : Int) := by unfold sgnd; simp
      rw [e, Lib.itoa_neg _ h7, h5]; rfl
  obtain ⟨⟨l⟩⟩ := s
  by_cases hh : l.head? = some 45
  · cases l with
    | nil => simp at hh
    | cons c l =>
      obtain rfl : c = 45 := by simpa using hh
      obtain ⟨c1, c2⟩ := cut_minus l
      rw [c1, c2] at hs ⊢
      rw [c2] at hd
      unfold parseN
      rw [if_pos rfl, numAt_all, main l true hs hd]
      rfl
  · obtain ⟨c1, c2⟩ := cut_list l hh
    rw [c1, c2] at hs ⊢
    rw [c2] at hd
    unfold parseN
    rw [if_pos rfl, numAt_all, main l false hs hd]
    rfl
end Go.Proofs.YtboolbcckfldaaaDoor
