/- Strings: emptiness, cutting a byte off the left side (TrimLeft); the bytes of a number. -/
import Derived.Test.YtboolbcckfldaaaDoorWalkE
namespace Go.Proofs.YtboolbcckfldaaaDoor
open Go.RowKit
set_option linter.unusedVariables false
set_option linter.unusedSimpArgs false

def cutL (c : UInt8) (s : ByteArray) : ByteArray := ⟨(s.data.toList.dropWhile (· == c)).toArray⟩
def sizeOfStr : Value → Nat | .string s => s.size | _ => 0
theorem ret_string {a b : ByteArray} (h : a = b) : Ending.returned (.string a) = .returned (.string b) := by rw [h]

theorem bytes_cons (t : ByteArray) (h : 0 < t.size) : t.data.toList = t[0] :: t.data.toList.drop 1 := by
  have h' : 0 < t.data.toList.length := by simpa using h
  conv => lhs; rw [← List.drop_zero (l := t.data.toList), List.drop_eq_getElem_cons h']
  rfl
theorem extract_toList (t : ByteArray) (a b : Nat) : (t.extract a b).data.toList = (t.data.toList.take b).drop a := by
  rw [ByteArray.data_extract, Array.toList_extract]
  simp [List.extract, List.drop_take]
theorem extract_rest (t : ByteArray) (a : Nat) : (t.extract a t.size).data.toList = t.data.toList.drop a := by
  rw [extract_toList, List.take_of_length_le]
  simp
theorem cutL_step (c : UInt8) (t : ByteArray) (h : 0 < t.size) (hc : t[0] = c) : cutL c (t.extract 1 t.size) = cutL c t := by
  unfold cutL
  rw [extract_rest, bytes_cons t h, List.dropWhile_cons]
  simp [hc]
theorem cutL_stop (c : UInt8) (t : ByteArray) (h : 0 < t.size) (hc : t[0] ≠ c) : cutL c t = t := by
  unfold cutL
  rw [bytes_cons t h, List.dropWhile_cons, if_neg (by simpa using hc), ← bytes_cons t h]
theorem cutL_nil (c : UInt8) (t : ByteArray) (h : ¬ 0 < t.size) : cutL c t = t := by
  unfold cutL
  have : t.data.toList = [] := by
    apply List.eq_nil_of_length_eq_zero
    have : t.data.toList.length = t.size := by simp
    omega
  rw [this]
  obtain ⟨⟨l⟩⟩ := t
  simp at this
  subst this; rfl

set_option maxHeartbeats 400000 in
theorem trimLeftByte_any (s : ByteArray) (c : UInt8) (w : World) (hs : s.size ≤ 9000000000000) :
    Calls Tryd.prog 89 #[.string s, .int .u8 (c.toNat : Int)] w fun e w' => e = .returned (.string (cutL c s)) ∧ w = w' := by
  go_enter Tryd.func89, Tryd.ntmps89
  go_wp2
  go_loop [0] (fun v => ∃ t : ByteArray, t.size ≤ s.size ∧ v = .string t ∧ Hid (cutL c t = cutL c s)) (fun v => sizeOfStr v)
  case atStart => exact ⟨s, Nat.le_refl _, rfl, rfl⟩
  case round =>
    obtain ⟨t, ht, rfl, he⟩ := hrel
    by_cases h0 : 0 < t.size
    · by_cases hz : t[0] = c
      · have HZ := Lib.hid hz
        go_wp2
        go_round
        case rel => exact ⟨t.extract 1 t.size, by simp; omega, rfl, (cutL_step c t h0 HZ.out).trans he.out⟩
        case measure => simp [sizeOfStr]; omega
      · have HZ := Lib.hid hz
        have hz' : ((t[0].toNat : Int) == (c.toNat : Int)) = false := by
          rw [beq_eq_false_iff_ne]; intro e; exact hz (UInt8.toNat_inj.1 (by omega))
        clear hz
        go_wp2
        go_ret
        exact ⟨ret_string (by rw [← he.out, cutL_stop c t h0 HZ.out]), rfl⟩
    · go_wp2
      go_ret
      exact ⟨ret_string (by rw [← he.out, cutL_nil c t h0]), rfl⟩

theorem size_toList (s : ByteArray) : s.data.toList.length = s.size := by simp
theorem str_empty {s : ByteArray} (h : s.size = 0) : s.toList = [] ∧ s.toList.isEmpty = true := by
  have : s.toList = [] := by
    rw [ByteArray.toList_eq]
    apply List.eq_nil_of_length_eq_zero
    rw [size_toList]; exact h
  exact ⟨this, by rw [this]; rfl⟩
theorem str_full {s : ByteArray} (h : 0 < s.size) : ¬ s.toList = [] ∧ s.toList.isEmpty = false := by
  have : ¬ s.toList = [] := by
    rw [ByteArray.toList_eq]
    intro e
    have : s.size = 0 := by rw [← size_toList, e]; rfl
    omega
  exact ⟨this, by rw [List.isEmpty_eq_false_iff]; exact this⟩
theorem one_get (c : UInt8) (h : 0 < (⟨#[c]⟩ : ByteArray).size) : (⟨#[c]⟩ : ByteArray)[0] = c := rfl
theorem size_zero_iff (s : ByteArray) : s.size = 0 ↔ s = ⟨#[]⟩ := by
  constructor
  · intro h
    obtain ⟨⟨l⟩⟩ := s
    have : l.length = 0 := h
    rw [List.eq_nil_of_length_eq_zero this]
  · rintro rfl; rfl

attribute [local go_sem] one_get
set_option maxHeartbeats 400000 in
set_option maxRecDepth 100000 in
theorem trimLeft_any (s : ByteArray) (c : UInt8) (w : World) (hs : s.size ≤ 9000000000000) (hc : c.toNat < 128) :
    Calls Tryd.prog 81 #[.string s, .string ⟨#[c]⟩] w fun e w' => e = .returned (.string (cutL c s)) ∧ w = w' := by
  have hc' : decide ((c.toNat : Int) < 128) = true := by simp; omega
  by_cases h0 : s.size = 0
  · obtain ⟨e1, e2⟩ := str_empty h0
    go_enter Tryd.func81, Tryd.ntmps81
    go_wp2
    go_ret
    exact ⟨ret_string (by rw [cutL_nil c s (by omega)]), rfl⟩
  · obtain ⟨e1, e2⟩ := str_full (s := s) (by omega)
    go_enter Tryd.func81, Tryd.ntmps81
    go_wp2_with (go_at_call 89; refine (trimLeftByte_any _ _ _ (by omega)).mono ?_; rintro e w' ⟨rfl, rfl⟩)
    go_ret
    exact ⟨rfl, rfl⟩
end Go.Proofs.YtboolbcckfldaaaDoor
