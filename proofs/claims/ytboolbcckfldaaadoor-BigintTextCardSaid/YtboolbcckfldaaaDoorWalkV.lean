import Derived.Test.YtboolbcckfldaaaDoorWalkU
import Derived.Test.YtboolbcckfldaaaDoorNumH
import Derived.Test.YtboolbcckfldaaaDoorShelf
import Derived.Lib.AppendIntMem
namespace Go.Proofs.YtboolbcckfldaaaDoor
open Go.RowKit
set_option linter.unusedVariables false
set_option linter.unusedSimpArgs false

/-- the table of powers of ten is as it was laid -/
def HasTab (w : World) : Prop := Lib.TabIs Tryd.prog w "internal/strconv.uint64pow10" .u64 Lib.pow10Tab
theorem HasTab.below {w w' : World} (h : HasTab w) (hb : Below w.heap.size w w') : HasTab w' := by
  unfold HasTab Lib.TabIs World.var? at *
  cases hg : Program.globalNamed Tryd.prog "internal/strconv.uint64pow10" with
  | none => rw [hg] at h; exact absurd h (by simp)
  | some g =>
    rw [hg] at h
    simp only [Option.bind_some] at h ⊢
    cases hh : w.heap[g]? with
    | none => rw [hh] at h; exact absurd h (by simp)
    | some o =>
      rw [hh] at h
      have hlt : g < w.heap.size := (Array.getElem?_eq_some_iff.1 hh).1
      rw [hb.block g hlt, hh]
      exact h

def strOf (l : List UInt8) : Value := .string ⟨l.toArray⟩

theorem Itoa_any (n : Int) (h0 : -9223372036854775808 ≤ n) (h1 : n ≤ 9223372036854775807) (w : World) (ht : HasTab w) : Calls Tryd.prog 55 #[.int .i64 n] w fun e w' => e = .returned (strOf (Lib.itoa n)) ∧ Below w.heap.size w w' := by
  refine (Tryd.strconv_Itoa n h0 h1 w ht).mono ?_
  rintro e w' ⟨rfl, k, os, rfl⟩
  exact ⟨rfl, Lib.below_grow _ w (Nat.le_refl _) k os⟩

theorem Repeat_zeros (l : Nat) (hl : l ≤ 9) (w : World) : Calls Tryd.prog 56 #[.string ⟨#[48]⟩, .int .i64 (9 - (l : Int))] w fun e w' => e = .returned (.string ⟨(List.replicate (9 - l) 48).toArray⟩) ∧ Below w.heap.size w w' := by
  have h := Tryd.strings_Repeat ⟨#[48]⟩ (9 - l) w (by omega) (by
    have : (ByteArray.mk #[48]).size = 1 := rfl
    rw [this]; omega)
  rw [show (((9 - l : Nat) : Int)) = 9 - (l : Int) from by omega] at h
  refine h.mono ?_
  rintro e w' ⟨rfl, hb⟩
  refine ⟨?_, hb⟩
  rw [show (ByteArray.mk #[48]).data.toList = [48] from rfl, repeat_zero48]

theorem str_app (a b : List UInt8) : (ByteArray.mk a.toArray) ++ (ByteArray.mk b.toArray) = ByteArray.mk (a ++ b).toArray := by
  apply ByteArray.ext
  rw [ByteArray.data_append]
  simp

theorem len_two {n : Nat} : 1 < (digs 4294967296 n).length ↔ 4294967296 ≤ n := by
  constructor
  · intro h
    apply Nat.le_of_not_lt
    intro hlt
    have := digs_length_le (B := 4294967296) (k := 1) (by decide) (by simpa using hlt)
    omega
  · intro h
    apply Nat.lt_of_not_le
    intro hle
    have h1 := val_lt (digs_Dig (B := 4294967296) (by decide) n)
    rw [val_digs (by decide)] at h1
    have h2 : (4294967296 : Nat) ^ (digs 4294967296 n).length ≤ 4294967296 ^ 1 := Nat.pow_le_pow_right (by decide) hle
    omega
theorem len_zero {n : Nat} : (digs 4294967296 n).length = 0 ↔ n = 0 := by rw [List.length_eq_zero_iff]; exact digs_nil_iff (by decide) n
theorem gd_low {n : Nat} (h : n < 4294967296) : gd (digs 4294967296 n) 0 = n := by rw [digs_gd (by decide), Nat.pow_zero, Nat.div_one]; exact Nat.mod_eq_of_lt h

set_option maxHeartbeats 4000000 in
set_option maxRecDepth 100000 in
theorem Print_any (x : Int) (w : World) (hx : Bd 100000000 x) (ht : HasTab w) : Calls Tryd.prog 29 #[vI x] w fun e w' => e = .returned (strOf (Lib.itoa x)) ∧ Below w.heap.size w w' := by
  have h0 := Box1.new w 23 (.bool (sg x)) (.string (mg x))
  have HOF := fun W => Lib.hid (of_mg x W (hx.mono (by omega)))
  have hl := hx.digs
  have hdl : (Lib.decDigits x.natAbs).length ≤ 300000000 := dec_len (by omega) hx
  have HT := Lib.hid ht
  clear hx ht
  go_enter Tryd.func29, Tryd.ntmps29
  go_wp2_with fail
  obtain ⟨W0, hW0⟩ : ∃ W0, W0 = (w.alloc (.cells #[.bool (sg x), .string (mg x)] 23)) := ⟨_, rfl⟩
  rw [← hW0] at h0 ⊢
  clear hW0
  refine (Valid_yes x W0).mono ?_
  rintro e W1 ⟨rfl, hb⟩
  have h1 := h0.below hb
  clear hb h0
  obtain ⟨x0, x1⟩ := h1.x.cells
  go_wp2_with fail
  refine (HOF W1).out.mono ?_
  rintro e W2 ⟨A, c, rfl, hc, hr, hb⟩
  have h2 := h1.below hb
  have HR := Lib.hid hr
  clear hb h1 x0 x1 hr
  go_wp2_with fail
  go_loopw [3, 4] (fun v3 v4 wr => ∃ (n : Nat) (B : Option Addr) (d : Nat) (s : List UInt8), v3 = .slice B (digs 4294967296 n).length d ∧ (digs 4294967296 n).length ≤ d ∧ v4 = strOf s ∧ Hid (n ≤ x.natAbs) ∧ Hid (Lib.decDigits x.natAbs = Lib.decDigits n ++ s) ∧ Hid (RdAt wr .u32 B (digs 4294967296 n)) ∧ Box1 w wr 23 (.bool (sg x)) (.string (mg x))) (fun v3 _ wr => rdVal wr v3)
  case atStart => exact ⟨x.natAbs, A, c, [], rfl, hc, rfl, Lib.hid (Nat.le_refl _), Lib.hid (List.append_nil _).symm, HR, h2⟩
  case round =>
    clear h2 HR hc
    obtain ⟨n, B, d, s, rfl, hd, rfl, hn, hs, hr, hB⟩ := hrel
    have hln : (digs 4294967296 n).length ≤ 100000000 := by
      have h1 := digs_len_mono (B := 4294967296) (by decide) hn.out
      omega
    have hsl : s.length ≤ 300000000 := by have := congrArg List.length hs.out; rw [List.length_append] at this; omega
    have HM := Lib.hid (rdVal_eq d hr.out)
    rw [val_digs (by decide)] at HM
    by_cases hbig : 1000000000 ≤ n
    · have hgo : 1 < (digs 4294967296 n).length ∨ (digs 4294967296 n).length = 1 := by
        have := len_zero (n := n)
        omega
      have hg0 : (digs 4294967296 n).length = 1 → gd (digs 4294967296 n) 0 = n := fun h => gd_low (by have := len_two (n := n); omega)
      have HSM := Lib.hid (small_any B d n 1000000000 wr hr.out (by omega) (by omega) (by omega))
      have hcell := hr.out 0
      rcases hgo with h1 | h1
      focus
        clear hg0 hcell
        go_wp2_with fail
      rotate_left 1
      focus
        obtain ⟨b, o, rfl, hcl⟩ := hcell (by omega)
        rw [hg0 h1, Nat.add_zero] at hcl
        have hI : (1000000000 : Int) ≤ n := by omega
        clear hg0 hcell
        rw [h1] at HSM
        rw [h1]
        rw [h1] at hd hln HM
        have H1 := Lib.hid h1
        clear h1
        go_wp2_with fail
      rotate_left 1
      all_goals
        refine HSM.out.mono ?_
        rintro e W3 ⟨Q, q1, rfl, hq1, hq, hb3⟩
        have hB3 := hB.below hb3
        have HTW := Lib.hid ((HT.out.below (hB.b)).below hb3)
        have HQ := Lib.hid hq
        clear hb3 hq
        have hch := dec_chunk hbig
        rw [show (1000000000 : Int).toNat = 1000000000 from rfl] at hq1 HQ ⊢
        have hm0 : (0 : Int) ≤ (n : Int) % 1000000000 := by omega
        have hm1 : (n : Int) % 1000000000 < 1000000000 := by omega
        have hlen9 := hch.2
        have hdg : Lib.itoa ((n : Int) % 1000000000) = Lib.decDigits (n % 1000000000) := by
          rw [show ((n : Int) % 1000000000) = ((n % 1000000000 : Nat) : Int) from by omega, Lib.itoa_nonneg]
        have HIT := fun W h => Lib.hid (Itoa_any ((n : Int) % 1000000000) (by omega) (by omega) W h)
        rw [hdg] at HIT
        have HCH := Lib.hid hch.1
        clear hch hdg HSM
        go_wp2_with fail
        refine (HIT W3 HTW.out).out.mono ?_
        rintro e W4 ⟨rfl, hb4⟩
        have hB4 := hB3.below hb4
        have HQ4 := Lib.hid (HQ.out.below hb4)
        clear HIT HQ hb4 hB3 HTW
        simp only [strOf]
        go_wp2_with fail
        refine (Repeat_zeros _ hlen9 W4).mono ?_
        rintro e W5 ⟨rfl, hb5⟩
        have hzl : (List.replicate (9 - (Lib.decDigits (n % 1000000000)).length) (48 : UInt8)).length ≤ 9 := by rw [List.length_replicate]; omega
        generalize hZ : List.replicate (9 - (Lib.decDigits (n % 1000000000)).length) (48 : UInt8) = Z at HCH hzl ⊢
        generalize hD : Lib.decDigits (n % 1000000000) = D at HCH hlen9 ⊢
        clear hZ hD
        have hB5 := hB4.below hb5
        have HQ5 := Lib.hid (HQ4.out.below hb5)
        clear hb5 hB4 HQ4
        go_wp2_with fail
        go_roundw
        case rel =>
          refine ⟨n / 1000000000, Q, q1, Z ++ D ++ s, rfl, hq1, ?_, Lib.hid ?_, Lib.hid ?_, HQ5, hB5⟩
          · rw [str_app, str_app]; rfl
          · have := hn.out; omega
          · rw [hs.out, HCH.out]; simp
        case measure =>
          have h2 := rdVal_eq q1 HQ5.out
          rw [val_digs (by decide)] at h2
          first
            | (show rdVal W5 (.slice Q (digs 4294967296 (n / 1000000000)).length q1) < rdVal wr (.slice B (digs 4294967296 n).length d)
               rw [HM.out, h2]; omega)
            | (show rdVal W5 (.slice Q (digs 4294967296 (n / 1000000000)).length q1) < rdVal wr (.slice (some ⟨b, o, none⟩) 1 d)
               rw [HM.out, h2]; omega)
    · have h9 : n < 1000000000 := by omega
      have HSI := Lib.hid (single_any B d n wr hr.out (by
        apply Nat.le_of_not_lt; intro h
        have := (len_two (n := n)).1 (by omega)
        omega))
      have hIT := fun W h => Lib.hid (Itoa_any (n : Int) (by omega) (by omega) W h)
      rw [Lib.itoa_nonneg] at hIT
      have HT2 := Lib.hid (HT.out.below hB.b)
      obtain ⟨x0, x1⟩ := hB.x.cells
      clear hbig HM
      have hd9 : (Lib.decDigits n).length ≤ 300000000 := by have := congrArg List.length hs.out; rw [List.length_append] at this; omega
      rcases Nat.eq_zero_or_pos n with h0 | h0
      focus
        have hz : (digs 4294967296 n).length = 0 := len_zero.2 h0
        have H0 := Lib.hid h0
        clear h0
        rw [hz] at HSI
        rw [hz]
        clear hz hln hd
        go_wp2_with fail
      rotate_left 1
      focus
        have h1 : (digs 4294967296 n).length = 1 := by
          have := len_zero (n := n)
          have := len_two (n := n)
          omega
        obtain ⟨b, o, rfl, hcl⟩ := hr.out 0 (by omega)
        rw [gd_low (by omega), Nat.add_zero] at hcl
        have hI : ¬ (1000000000 : Int) ≤ n := by omega
        rw [h1] at HSI
        rw [h1]
        clear h1 hln hd
        go_wp2_with fail
      rotate_left 1
      all_goals
        refine HSI.out.mono ?_
        rintro e W3 ⟨rfl, rfl⟩
        go_wp2_with fail
        refine (hIT _ HT2.out).out.mono ?_
        rintro e W4 ⟨rfl, hb4⟩
        have hB4 := hB.below hb4
        clear hb4 x0 x1 hIT HT2 HSI
        obtain ⟨x0, x1⟩ := hB4.x.cells
        simp only [strOf]
        have hS := hs.out
        generalize hD : Lib.decDigits n = D at hd9 hS ⊢
        have HS := Lib.hid hS
        clear hD hS hs hn
        by_cases hx0 : x < 0
        focus
          have hsg : sg x = true := by unfold sg; simpa using hx0
          have HI : Hid (Lib.itoa x = 45 :: Lib.decDigits x.natAbs) := Lib.hid (by unfold Lib.itoa; rw [if_pos hx0])
          rw [hsg] at x0
          clear hsg hx0
          go_wp2_with fail
        rotate_left 1
        focus
          have hsg : sg x = false := by unfold sg; simpa using hx0
          have HI : Hid (Lib.itoa x = Lib.decDigits x.natAbs) := Lib.hid (by unfold Lib.itoa; rw [if_neg hx0, show x.toNat = x.natAbs from by omega])
          rw [hsg] at x0
          clear hsg hx0
          go_wp2_with fail
        rotate_left 1
      all_goals
        go_ret
        refine ⟨?_, hB4.b⟩
        rw [HI.out, HS.out]
        simp [strOf, str_app]

set_option maxHeartbeats 1000000 in
set_option maxRecDepth 100000 in
theorem Print_bad (n : Bool) (s : ByteArray) (w : World) (h : vld n s = false) : Calls Tryd.prog 29 #[.agg #[.bool n, .string s]] w fun e w' => e = .returned (.string ⟨#[]⟩) ∧ Below w.heap.size w w' := by
  have h0 := Box1.new w 23 (.bool n) (.string s)
  go_enter Tryd.func29, Tryd.ntmps29
  go_wp2_with fail
  obtain ⟨W0, hW0⟩ : ∃ W0, W0 = (w.alloc (.cells #[.bool n, .string s] 23)) := ⟨_, rfl⟩
  rw [← hW0] at h0 ⊢
  clear hW0
  refine (Valid_no n s W0 h).mono ?_
  rintro e W1 ⟨rfl, hb⟩
  have h1 := h0.below hb
  clear hb h0
  go_wp2_with fail
  go_ret
  exact ⟨rfl, h1.b⟩
end Go.Proofs.YtboolbcckfldaaaDoor
