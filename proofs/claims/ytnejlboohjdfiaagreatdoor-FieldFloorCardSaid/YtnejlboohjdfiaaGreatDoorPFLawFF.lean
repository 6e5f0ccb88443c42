/- FieldFloor: the integer part is at most the number, which is less than it plus 1; an enclosure with one bit more lies within the former one. -/
import Derived.Test.YtnejlboohjdfiaaGreatDoorPFJ
import Derived.Test.YtnejlboohjdfiaaGreatDoorPFK
import Derived.Test.YtnejlboohjdfiaaGreatDoorPFL
import Derived.Test.YtnejlboohjdfiaaGreatDoorPFD
namespace Go.Proofs.YtnejlboohjdfiaaGreatDoor
open Go Go.RowKit
set_option linter.unusedVariables false
set_option linter.unusedSimpArgs false

theorem low_id {x : Nm} (h : Ok x) : low x = x := toK_inj (low_ok h.ne) h (toK_low h.ne)
theorem int_mul (a b : Int) : mulN (intN a) (intN b) = intN (a * b) := by
  unfold mulN
  rw [show mulR (intN a) (intN b) = intN (a * b) from by unfold mulR intN; simp]
  exact low_id (intN_ok _)
theorem int_add (a b : Int) : addN (intN a) (intN b) = intN (a + b) := by
  unfold addN
  rw [show addR (intN a) (intN b) = intN (a + b) from by unfold addR intN; simp]
  exact low_id (intN_ok _)
theorem pow_next {x : Nm} (ox : Ok x) (k : Nat) : mulN x (intN ((2 ^ (k + 1) : Nat) : Int)) = mulN (mulN x (intN ((2 ^ k : Nat) : Int))) (intN 2) := by
  rw [mulN_assoc ox (intN_ok _) (intN_ok _), int_mul, Nat.pow_succ, Int.natCast_mul]; rfl
theorem sgn_two : sgnN (intN 2) = 1 := by decide
theorem dbl_cmp {y : Nm} (oy : Ok y) (n : Int) : cmpK (zint (n * 2)) (mulN y (intN 2)) = cmpK (zint n) y := by
  have h := cmpK_mulN (x := intN n) (y := y) (z := intN 2) (intN_ok n) oy (intN_ok 2)
  rw [int_mul, sgn_two, Int.mul_one] at h
  exact h
/-- the enclosure with one bit more -/
theorem enc_next {y : Nm} {a c : Int} (oy : Ok y) (ha : Fl y a) (hc : Fl (mulN y (intN 2)) c) : a * 2 ≤ c ∧ c ≤ hiN (mulN y (intN 2)) c ∧ hiN (mulN y (intN 2)) c ≤ hiN y a * 2 := by
  have oy2 := mulN_ok oy (intN_ok 2)
  have h1 : a * 2 ≤ c := by
    rcases Int.lt_or_le c (a * 2) with h | h
    · have h2 := (hc.iff oy2 (a * 2)).2 h
      rw [dbl_cmp oy] at h2
      have := ha.lo
      omega
    · exact h
  have h3 : c < (a + 1) * 2 := (hc.iff oy2 ((a + 1) * 2)).1 (by rw [dbl_cmp oy]; exact ha.hi)
  refine ⟨h1, by unfold hiN; split <;> omega, ?_⟩
  by_cases e : intN a = y
  · have e2 : mulN y (intN 2) = intN (a * 2) := by rw [← e, int_mul]
    have e3 : c = a * 2 := by
      refine hc.uniq oy2 ⟨?_, ?_⟩
      · rw [e2]; exact int_le (Int.le_refl _)
      · rw [e2]
        show 0 < cmpK (zint (a * 2 + 1)) (zint (a * 2))
        rw [cmp_ints]
        exact Int.sign_pos_iff.2 (by omega)
    unfold hiN
    rw [if_pos e, if_pos (by rw [e2, e3]), e3]
    omega
  · have : hiN y a = a + 1 := by unfold hiN; rw [if_neg e]
    rw [this]
    unfold hiN
    split <;> omega
set_option maxRecDepth 100000 in
theorem FF_no (u : Rw) (n : Int) (w : World) (HAW : ∀ W, Below w.heap.size w W → Calls Tryz.prog 19 #[] W (RetV (.bool true) W)) (h : right1 u = false) : Calls Tryz.prog 12 #[vR u, .int .u8 n] w (RetV (.bool true) w) := by
  have R := fun b w hB => hright1_any u b w hB
  rw [h] at R
  exact vm_pure (by kernel_rfl) Tryz.func12 rfl [.agg #[.bool u.n0, .string u.s0, .bool u.n1, .string u.s1, .bool u.n2, .string u.s2, .bool u.n3, .string u.s3, .bool u.n4, .string u.s4], .int .u8 n] (Nat.le_of_ble_eq_true (by kernel_rfl)) [] [.f, .t] [cW (fun w' hc => HAW w' (Chg.bl0 hc)), cU 5 33 (cells1 u) (cells1 u) (fun b w hc hB => R b w hB)] (fun r => by kernel_rfl) (fun r => by kernel_rfl)
theorem rem40 (n k : Nat) (h : n % 40 = k) (w : World) : (Op.intDiv .rem .i64 (n : Int) (40 : Int)).run Tryz.prog w = .ok (.int .i64 (k : Int)) w := by
  have e : (n : Int).tmod 40 = (k : Int) := by rw [Int.tmod_eq_emod_of_nonneg (by omega)]; omega
  unfold Op.intDiv
  rw [if_neg (by decide)]
  simp only [e]
  rfl
set_option maxRecDepth 100000 in
theorem FF_walk (x : Nm) (n k : Nat) (f a b c d g1 g2 e1 e2 e3 : Int) (nf n1 nf1 : Nm) (w : World) (HAW : ∀ W, Below w.heap.size w W → Calls Tryz.prog 19 #[] W (RetV (.bool true) W))
    (R : ∀ b w, Hc w b 33 (cells1 (rwN x)) → Calls Tryz.prog 34 #[.slice (some ⟨b, 0, none⟩) 1 1] w (fun e w' => e = .returned (.bool true) ∧ Hc w' b 33 (cells1 (rwN x)) ∧ Chg [b] w w'))
    (F : ∀ w, Calls Tryz.prog 48 #[vN x] w (RetI f w)) (O : ∀ w, Calls Tryz.prog 49 #[.int .i64 1] w (RetI 1 w))
    (M : ∀ w, Calls Tryz.prog 39 #[.agg #[.bool (sg f), .string (mg f), .bool false, .string ⟨#[]⟩, .bool false, .string ⟨#[]⟩, .bool false, .string ⟨#[]⟩], vI 1] w (RetV (.tuple #[vN nf, .int .i64 0]) w))
    (C1 : ∀ w, Calls Tryz.prog 46 #[vN nf, vN x] w (RetN g1 w)) (h1 : decide (0 < g1) = false) (O1 : ∀ w, Calls Tryz.prog 37 #[.int .i64 1] w (RetV (vN n1) w)) (A : ∀ w, Calls Tryz.prog 23 #[vN nf, vN n1] w (RetV (vN nf1) w))
    (C2 : ∀ w, Calls Tryz.prog 46 #[vN nf1, vN x] w (RetN g2 w)) (h2 : decide (g2 ≤ 0) = false)
    (E1 : ∀ w, Calls Tryz.prog 57 #[vN x, .int .i64 (k : Int)] w (RetV (.tuple #[vI a, vI b, .int .i64 0]) w)) (E2 : ∀ w, Calls Tryz.prog 57 #[vN x, .int .i64 ((k + 1 : Nat) : Int)] w (RetV (.tuple #[vI c, vI d, .int .i64 0]) w))
    (A1 : ∀ w, Calls Tryz.prog 61 #[vI a, vI a] w (RetI (a + a) w)) (D1 : ∀ w, Calls Tryz.prog 60 #[vI (a + a), vI c] w (RetN e1 w)) (q1 : decide (e1 ≤ 0) = true)
    (D2 : ∀ w, Calls Tryz.prog 60 #[vI c, vI d] w (RetN e2 w)) (q2 : decide (e2 ≤ 0) = true)
    (A2 : ∀ w, Calls Tryz.prog 61 #[vI b, vI b] w (RetI (b + b) w)) (D3 : ∀ w, Calls Tryz.prog 60 #[vI d, vI (b + b)] w (RetN e3 w)) (q3 : decide (e3 ≤ 0) = true)
    (hk : n % 40 = k) (hn : n < 256) : Calls Tryz.prog 12 #[vN x, .int .u8 (n : Int)] w (RetV (.bool true) w) := by
  have v1 : IntKind.i64.wrap ((k : Int) + 1) = ((k + 1 : Nat) : Int) := by rw [wr64 (by omega) (by omega)]; omega
  have Q := fun w => rem40 n k hk w
  exact vm_pure (by kernel_rfl) Tryz.func12 rfl [.agg #[.bool (sg x.c0), .string (mg x.c0), .bool (sg x.c1), .string (mg x.c1), .bool (sg x.c2), .string (mg x.c2), .bool (sg x.c3), .string (mg x.c3), .bool (sg x.d), .string (mg x.d)], .int .u8 (n : Int)] (Nat.le_of_ble_eq_true (by kernel_rfl)) [(8, 1), (8, 2), (10, 2), (11, 26)] [.f, .f, .f, .f, .f, .f, .f, (.p _ false h1), (.p _ false h1), (.p _ false h1), (.p _ false h1), (.p _ false h1), (.p _ false h1), (.p _ false h1), (.p _ false h2), .t, .t, .t, .t, .t, .t, .t, .t, .t, .t, (.p _ true q1), (.p _ true q1), (.p _ true q1), (.p _ true q1), (.p _ true q1), (.p _ true q2), (.p _ true q2), (.p _ true q2), (.p _ true q2), (.p _ true q2), (.p _ true q2), (.p _ true q2)] [cW (fun w' hc => HAW w' (Chg.bl0 hc)), cU 5 33 (cells1 (rwN x)) (cells1 (rwN x)) (fun b w hc hB => R b w hB), cV (F), cV (O), cV (M), cV (C1), cV (O1), cV (A), cV (C2), lV (convert 5 3 (.int .u8 (n : Int))) (.int .i64 (n : Int)) (fun w hh => conv8 n hn w), lV (Op.intDiv .rem .i64 (((n : Int)) : Int) ((40) : Int)) (.int .i64 ((k : Int))) (fun w hC => Q w), cV (E1), lE .i64 ((((k : Int)) : Int) + ((1) : Int)) (((k + 1 : Nat) : Int)) (v1), cV (E2), cV (A1), cV (D1), cV (D2), cV (A2), cV (D3), lP (.bool (decide (e3 ≤ 0))) (.bool true) (congrArg Value.bool q3)] (fun r => by kernel_rfl) (fun r => by kernel_rfl)
theorem FF_all (u : Rw) (n : Nat) (w : World) (ht : HasTab w) (hn : n < 256) : Calls Tryz.prog 12 #[vR u, .int .u8 (n : Int)] w (RetV (.bool true) w) := by
  have HAW : ∀ W, Below w.heap.size w W → Calls Tryz.prog 19 #[] W (RetV (.bool true) W) := fun W h => hawake_any W (ht.below h)
  cases hr : right1 u with
  | false => exact FF_no u n w HAW hr
  | true =>
    have R := fun b w hB => hright1_any u b w hB
    rw [hr] at R
    unfold right1 at hr
    simp only [Bool.and_eq_true] at hr
    obtain ⟨f1, k1⟩ := hr
    obtain ⟨x, rfl, ox, bx⟩ := right_nm f1 k1
    obtain ⟨k, hk⟩ : ∃ k, n % 40 = k := ⟨_, rfl⟩
    have hk40 : k < 40 := by omega
    obtain ⟨f, hf⟩ := Fl.ex ox
    have o1 := mulN_ok ox (intN_ok ((2 ^ k : Nat) : Int))
    have o2 := mulN_ok ox (intN_ok ((2 ^ (k + 1) : Nat) : Int))
    obtain ⟨a, ha⟩ := Fl.ex o1
    obtain ⟨c, hc⟩ := Fl.ex o2
    have E1 := fun w => fEnclose_any x k a w (by omega) (bx.mono (by omega)) ox ha
    have E2 := fun w => fEnclose_any x (k + 1) c w (by omega) (bx.mono (by omega)) ox hc
    have flb : ∀ {y : Nm} {g : Int} {j : Nat}, BN j y → Ok y → Fl y g → Bd (j + 5) g := fun {y g j} hy oy hg => by
      have h1 := hg.bound oy
      have e2 : Bd (j + 1) ((2 : Int) * (y.c1.natAbs : Int)) := ((show Bd 1 2 by unfold Bd; decide).mul (hy.h1.le (y := (y.c1.natAbs : Int)) (by simp))).mono (by omega)
      have e3 : Bd (j + 1) ((2 : Int) * (y.c2.natAbs : Int)) := ((show Bd 1 2 by unfold Bd; decide).mul (hy.h2.le (y := (y.c2.natAbs : Int)) (by simp))).mono (by omega)
      have e4 : Bd (j + 1) ((3 : Int) * (y.c3.natAbs : Int)) := ((show Bd 1 3 by unfold Bd; decide).mul (hy.h3.le (y := (y.c3.natAbs : Int)) (by simp))).mono (by omega)
      have e1 : Bd (j + 1) (y.c0.natAbs : Int) := (hy.h0.le (y := (y.c0.natAbs : Int)) (by simp)).mono (by omega)
      exact ((((e1.add e2).add (e3.mono (by omega))).add (e4.mono (by omega))).le (x := bigN y) (y := g) h1).mono (by omega)
    have pb : ∀ j, j ≤ 60 → BN 20 (intN ((2 ^ j : Nat) : Int)) := fun j hj => BN.int ((bd_pow j hj).mono (by omega)) (by omega)
    have ba := flb (bx.mulN (pb k (by omega)) ox.ne (intN_ok _).ne) o1 ha
    have bc := flb (bx.mulN (pb (k + 1) (by omega)) ox.ne (intN_ok _).ne) o2 hc
    have bf := flb bx ox hf
    have bh : ∀ {y : Nm} {g : Int}, Bd 50 g → Bd 51 (hiN y g) := fun {y g} h => by
      unfold hiN
      split
      · exact h.mono (by omega)
      · exact h.add (Bd.one (by omega))
    have hen := enc_next o1 ha (by rw [← pow_next ox]; exact hc)
    rw [← pow_next ox] at hen
    obtain ⟨h1, h2, h3⟩ := hen
    have bb := bh (y := mulN x (intN ((2 ^ k : Nat) : Int))) ba
    have bd := bh (y := mulN x (intN ((2 ^ (k + 1) : Nat) : Int))) bc
    generalize hiN (mulN x (intN ((2 ^ k : Nat) : Int))) a = b at *
    generalize hiN (mulN x (intN ((2 ^ (k + 1) : Nat) : Int))) c = d at *
    have F := fun w => fFloor_fl x f w (bx.mono (by omega)) ox hf
    have bI := BN.int (bf.mono (show 20 + 5 ≤ 25 by omega)) (by omega)
    have M := fun w => fMake_int (intN f) w (bI.mono (by omega)) (intN_ok f).ne
    rw [low_id (intN_ok f)] at M
    have M' : ∀ w, Calls Tryz.prog 39 #[.agg #[.bool (sg f), .string (mg f), .bool false, .string ⟨#[]⟩, .bool false, .string ⟨#[]⟩, .bool false, .string ⟨#[]⟩], vI 1] w (RetV (.tuple #[vN (intN f), .int .i64 0]) w) := fun w => by
      have h := M w
      unfold vA4 intN at h
      simp only [sg0, mg0] at h
      exact h
    have C1 := fun w => fCmp_any (intN f) x w (bI.mono (by omega)) (bx.mono (by omega)) (intN_ok f) ox
    have A := fun w => fAdd_any (intN f) (intN 1) w (bI.mono (by omega)) ((int_bn 1 (by decide)).mono (by omega)) (intN_ok f) (intN_ok 1)
    rw [int_add] at A
    have C2 := fun w => fCmp_any (intN (f + 1)) x w ((BN.int (bf.add (Bd.one (by omega))) (by omega)).mono (by omega)) (bx.mono (by omega)) (intN_ok _) ox
    have A1 := fun w => RAdd_any a a w (ba.mono (by omega)) (ba.mono (by omega))
    have A2 := fun w => RAdd_any b b w (bb.mono (by omega)) (bb.mono (by omega))
    have D1 := fun w => RCmp_any (a + a) c w ((ba.add ba).mono (by omega)) (bc.mono (by omega))
    have D2 := fun w => RCmp_any c d w (bc.mono (by omega)) (bd.mono (by omega))
    have D3 := fun w => RCmp_any d (b + b) w (bd.mono (by omega)) ((bb.add bb).mono (by omega))
    have sg : ∀ {z : Int}, z ≤ 0 → decide (z.sign ≤ 0) = true := fun h => decide_eq_true (Int.sign_nonpos_iff.2 h)
    exact FF_walk x n k f a b c d _ _ _ _ _ (intN f) (intN 1) (intN (f + 1)) w HAW R F (fun w => ROf_any 1 w (by omega) (by omega)) M' C1 (decide_eq_false (by have := hf.lo; show ¬ 0 < cmpK (zint f) x; omega)) (fun w => fOf_any 1 w (by omega) (by omega)) A C2 (decide_eq_false (by have := hf.hi; show ¬ cmpK (zint (f + 1)) x ≤ 0; omega))
      E1 E2 A1 D1 (sg (by omega)) D2 (sg (by omega)) A2 D3 (sg (by omega)) hk hn
theorem FF_row (u : Rw) (z : Int) (w : World) (ht : HasTab w) (h : 0 ≤ z ∧ z ≤ 255) : Calls Tryz.prog 12 #[vR u, .int .u8 z] w (RetV (.bool true) w) := by
  obtain ⟨n, rfl⟩ : ∃ n : Nat, z = n := ⟨z.toNat, by omega⟩
  exact FF_all u n w ht (by omega)
end Go.Proofs.YtnejlboohjdfiaaGreatDoor

