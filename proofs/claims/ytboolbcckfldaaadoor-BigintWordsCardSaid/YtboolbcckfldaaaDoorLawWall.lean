import Derived.Test.YtboolbcckfldaaaDoorLawWords
namespace Go.Proofs.YtboolbcckfldaaaDoor
open Go.RowKit
set_option linter.unusedVariables false

theorem half_bd (a : Int) (h1 : -2147483648 ≤ a) (h2 : a ≤ 2147483647) : -1073741824 ≤ a.tdiv 2 ∧ a.tdiv 2 ≤ 1073741824 := by
  have h : (a.tdiv 2).natAbs = a.natAbs / 2 := Int.natAbs_tdiv a 2
  omega
theorem mul_bd (n m : Int) (h1 : n.natAbs ≤ 1073741824) (h2 : m.natAbs ≤ 1073741824) : -1152921504606846976 ≤ n * m ∧ n * m ≤ 1152921504606846976 := by
  have h := Int.natAbs_mul n m
  have h3 : n.natAbs * m.natAbs ≤ 1073741824 * 1073741824 := Nat.mul_le_mul h1 h2
  omega
theorem Bd.small64 {z : Int} (h : z.natAbs < 18446744073709551616) : Bd 8 z := by unfold Bd; simpa using h

theorem Words_all (a b : Int) (ha1 : -2147483648 ≤ a) (ha2 : a ≤ 2147483647) (hb1 : -2147483648 ≤ b) (hb2 : b ≤ 2147483647) (w : World) (ht : HasTab w) : Calls Tryd.prog 7 #[.int .i32 a, .int .i32 b] w (RetB true w) := by
  have HAW : ∀ W, Below w.heap.size w W → Calls Tryd.prog 10 #[] W (RetB true W) := fun W h => awake_any W (ht.below h)
  obtain ⟨n1, n2⟩ := half_bd a ha1 ha2
  obtain ⟨m1, m2⟩ := half_bd b hb1 hb2
  obtain ⟨n, hn⟩ : ∃ n, a.tdiv 2 = n := ⟨_, rfl⟩
  obtain ⟨m, hm⟩ : ∃ m, b.tdiv 2 = m := ⟨_, rfl⟩
  rw [hn] at n1 n2
  rw [hm] at m1 m2
  obtain ⟨p1, p2⟩ := mul_bd n m (by omega) (by omega)
  have bn : Bd 8 n := Bd.small64 (by omega)
  have bm : Bd 8 m := Bd.small64 (by omega)
  have O1 : ∀ W, Calls Tryd.prog 12 #[.int .i64 n] W (RetI n W) := fun W => Of_any n W (by omega) (by omega)
  have O2 : ∀ W, Calls Tryd.prog 12 #[.int .i64 m] W (RetI m W) := fun W => Of_any m W (by omega) (by omega)
  have A1 : ∀ W, Calls Tryd.prog 13 #[vI n, vI m] W (RetI (n + m) W) := fun W => Add_any n m W (bn.mono (by omega)) (bm.mono (by omega))
  have M1 : ∀ W, Calls Tryd.prog 14 #[vI n, vI m] W (RetI (n * m) W) := fun W => Mul_any n m W (bn.mono (by omega)) (bm.mono (by omega))
  have J1 : ∀ W, Calls Tryd.prog 23 #[vI (n + m)] W (RetNB (n + m) true W) := fun W => Int64_in _ W (by omega) (by omega)
  have J2 : ∀ W, Calls Tryd.prog 23 #[vI (n * m)] W (RetNB (n * m) true W) := fun W => Int64_in _ W (by omega) (by omega)
  have C1 : ∀ k, (n - m).sign = k → ∀ W, Calls Tryd.prog 20 #[vI n, vI m] W (RetN k W) := fun k hk W => by
    have h := Cmp_any n m W (bn.mono (by omega)) (bm.mono (by omega))
    rwa [hk] at h
  by_cases hz : m = 0
  · have hz1 : (m == 0) = true := by rw [hz]; rfl
    rcases Int.lt_trichotomy n m with h | h | h
    · exact Words_lt_zero a b n m n m (n + m) (n * m) 0 0 0 0 w HAW hn hm n1 n2 m1 m2 ha1 ha2 hb1 hb2 p1 p2 h O1 O2 A1 J1 M1 J2 (C1 _ (Int.sign_eq_neg_one_of_neg (by omega))) hz1
    · exact Words_eq_zero a b n m n m (n + m) (n * m) 0 0 0 0 w HAW hn hm n1 n2 m1 m2 ha1 ha2 hb1 hb2 p1 p2 (by omega) (by omega) O1 O2 A1 J1 M1 J2 (C1 _ (by rw [h, Int.sub_self]; rfl)) hz1
    · exact Words_gt_zero a b n m n m (n + m) (n * m) 0 0 0 0 w HAW hn hm n1 n2 m1 m2 ha1 ha2 hb1 hb2 p1 p2 (by omega) h O1 O2 A1 J1 M1 J2 (C1 _ (Int.sign_eq_one_of_pos (by omega))) hz1
  · have hz1 : (m == 0) = false := by rw [beq_eq_false_iff_ne]; exact hz
    have hqa : (n.tdiv m).natAbs ≤ 1073741824 := by
      rw [Int.natAbs_tdiv]
      exact Nat.le_trans (Nat.div_le_self _ _) (by omega)
    obtain ⟨f1, f2, _, _⟩ := tmod_facts n m hz
    have hra : (n.tmod m).natAbs ≤ 1073741824 := by omega
    have HQ : wrap64 (n.tdiv m) = n.tdiv m := by unfold wrap64; omega
    have HQ1 : wrap64 (n.tdiv m - 1) = n.tdiv m - 1 := by unfold wrap64; omega
    have D1 := fun W => DivMod_any n m W (bn.mono (by omega)) (bm.mono (by omega)) hz
    by_cases hr : n.tmod m = 0
    · have hr1 : (n.tmod m != 0) = false := by rw [hr]; rfl
      have hf := fdiv_same (x := n) hz (.inl hr)
      have ev : n.fmod m = n - n.tdiv m * m := by rw [hf.2]; omega
      have et : n.tdiv m * m = n := by omega
      have HP : IntKind.i64.wrap (n.tdiv m * m) = n.tdiv m * m := wr64 (by omega) (by omega)
      have HT : IntKind.i64.wrap (n - n.tdiv m * m) = n - n.tdiv m * m := wr64 (by omega) (by omega)
      have D : ∀ W, Calls Tryd.prog 28 #[vI n, vI m] W (RetIIE (n.tdiv m) (n - n.tdiv m * m) 0 W) := fun W => by
        have h := D1 W
        rw [hf.1, ev] at h
        exact h
      have O3 : ∀ W, Calls Tryd.prog 12 #[.int .i64 (n.tdiv m)] W (RetI (n.tdiv m) W) := fun W => Of_any _ W (by omega) (by omega)
      have O4 : ∀ W, Calls Tryd.prog 12 #[.int .i64 (n - n.tdiv m * m)] W (RetI (n - n.tdiv m * m) W) := fun W => Of_any _ W (by omega) (by omega)
      rcases Int.lt_trichotomy n m with h | h | h
      · exact Words_lt_nor a b n m n m (n + m) (n * m) _ _ _ _ w HAW hn hm n1 n2 m1 m2 ha1 ha2 hb1 hb2 p1 p2 h O1 O2 A1 J1 M1 J2 (C1 _ (Int.sign_eq_neg_one_of_neg (by omega))) hz1 hz HQ HQ1 hr1 HP HT D O3 O4
      · exact Words_eq_nor a b n m n m (n + m) (n * m) _ _ _ _ w HAW hn hm n1 n2 m1 m2 ha1 ha2 hb1 hb2 p1 p2 (by omega) (by omega) O1 O2 A1 J1 M1 J2 (C1 _ (by rw [h, Int.sub_self]; rfl)) hz1 hz HQ HQ1 hr1 HP HT D O3 O4
      · exact Words_gt_nor a b n m n m (n + m) (n * m) _ _ _ _ w HAW hn hm n1 n2 m1 m2 ha1 ha2 hb1 hb2 p1 p2 (by omega) h O1 O2 A1 J1 M1 J2 (C1 _ (Int.sign_eq_one_of_pos (by omega))) hz1 hz HQ HQ1 hr1 HP HT D O3 O4
    · have hr1 : (n.tmod m != 0) = true := by rw [bne_iff_ne]; exact hr
      have hne : n ≠ m := by
        intro e
        rw [e, Int.tmod_self] at hr
        exact hr rfl
      by_cases hs : sg n = sg m
      · have hsg : (!(decide (n < 0) == decide (m < 0))) = false := by unfold sg at hs; rw [hs]; simp
        have hf := fdiv_same (x := n) hz (.inr hs)
        have ev : n.fmod m = n - n.tdiv m * m := by rw [hf.2]; omega
        have HP : IntKind.i64.wrap (n.tdiv m * m) = n.tdiv m * m := wr64 (by omega) (by omega)
        have HT : IntKind.i64.wrap (n - n.tdiv m * m) = n - n.tdiv m * m := wr64 (by omega) (by omega)
        have D : ∀ W, Calls Tryd.prog 28 #[vI n, vI m] W (RetIIE (n.tdiv m) (n - n.tdiv m * m) 0 W) := fun W => by
          have h := D1 W
          rw [hf.1, ev] at h
          exact h
        have O3 : ∀ W, Calls Tryd.prog 12 #[.int .i64 (n.tdiv m)] W (RetI (n.tdiv m) W) := fun W => Of_any _ W (by omega) (by omega)
        have O4 : ∀ W, Calls Tryd.prog 12 #[.int .i64 (n - n.tdiv m * m)] W (RetI (n - n.tdiv m * m) W) := fun W => Of_any _ W (by omega) (by omega)
        rcases Int.lt_trichotomy n m with h | h | h
        · exact Words_lt_same a b n m n m (n + m) (n * m) _ _ _ _ w HAW hn hm n1 n2 m1 m2 ha1 ha2 hb1 hb2 p1 p2 h O1 O2 A1 J1 M1 J2 (C1 _ (Int.sign_eq_neg_one_of_neg (by omega))) hz1 hz HQ HQ1 hr1 hsg HP HT D O3 O4
        · exact absurd h hne
        · exact Words_gt_same a b n m n m (n + m) (n * m) _ _ _ _ w HAW hn hm n1 n2 m1 m2 ha1 ha2 hb1 hb2 p1 p2 (by omega) h O1 O2 A1 J1 M1 J2 (C1 _ (Int.sign_eq_one_of_pos (by omega))) hz1 hz HQ HQ1 hr1 hsg HP HT D O3 O4
      · have hsg : (!(decide (n < 0) == decide (m < 0))) = true := by unfold sg at hs; simpa using hs
        have hf := fdiv_less (x := n) hz hr hs
        have e1 : (n.tdiv m - 1) * m = n.tdiv m * m - m := by rw [Int.sub_mul, Int.one_mul]
        have ev : n.fmod m = n - (n.tdiv m - 1) * m := by rw [hf.2, e1]; omega
        have HP : IntKind.i64.wrap ((n.tdiv m - 1) * m) = (n.tdiv m - 1) * m := wr64 (by omega) (by omega)
        have HT : IntKind.i64.wrap (n - (n.tdiv m - 1) * m) = n - (n.tdiv m - 1) * m := wr64 (by omega) (by omega)
        have D : ∀ W, Calls Tryd.prog 28 #[vI n, vI m] W (RetIIE (n.tdiv m - 1) (n - (n.tdiv m - 1) * m) 0 W) := fun W => by
          have h := D1 W
          rw [hf.1, ev] at h
          exact h
        have O3 : ∀ W, Calls Tryd.prog 12 #[.int .i64 (n.tdiv m - 1)] W (RetI (n.tdiv m - 1) W) := fun W => Of_any _ W (by omega) (by omega)
        have O4 : ∀ W, Calls Tryd.prog 12 #[.int .i64 (n - (n.tdiv m - 1) * m)] W (RetI (n - (n.tdiv m - 1) * m) W) := fun W => Of_any _ W (by omega) (by omega)
        rcases Int.lt_trichotomy n m with h | h | h
        · exact Words_lt_corr a b n m n m (n + m) (n * m) _ _ _ _ w HAW hn hm n1 n2 m1 m2 ha1 ha2 hb1 hb2 p1 p2 h O1 O2 A1 J1 M1 J2 (C1 _ (Int.sign_eq_neg_one_of_neg (by omega))) hz1 hz HQ HQ1 hr1 hsg HP HT D O3 O4
        · exact absurd h hne
        · exact Words_gt_corr a b n m n m (n + m) (n * m) _ _ _ _ w HAW hn hm n1 n2 m1 m2 ha1 ha2 hb1 hb2 p1 p2 (by omega) h O1 O2 A1 J1 M1 J2 (C1 _ (Int.sign_eq_one_of_pos (by omega))) hz1 hz HQ HQ1 hr1 hsg HP HT D O3 O4
theorem Words_i32 (a b : Int) (ha : (Lit.int .i32 a).wf = true) (hb : (Lit.int .i32 b).wf = true) (w : World) (ht : HasTab w) : Calls Tryd.prog 7 #[.int .i32 a, .int .i32 b] w (RetB true w) := by
  have h1 : -2147483648 ≤ a ∧ a ≤ 2147483647 := by simpa [Lit.wf, IntKind.min, IntKind.max, IntKind.signed, IntKind.bits] using ha
  have h2 : -2147483648 ≤ b ∧ b ≤ 2147483647 := by simpa [Lit.wf, IntKind.min, IntKind.max, IntKind.signed, IntKind.bits] using hb
  exact Words_all a b h1.1 h1.2 h2.1 h2.2 w ht
end Go.Proofs.YtboolbcckfldaaaDoor
