import Derived.Test.YtboolbcckfldaaaDoorLawOrdB
namespace Go.Proofs.YtboolbcckfldaaaDoor
open Go.RowKit
set_option linter.unusedVariables false

theorem nbits_twice (n : Nat) : nbits (n + n) = nbits n + (if (nbits n : Int) < 1 then (nbits n : Int) else 1).toNat := by
  by_cases h : n = 0
  · subst h; rfl
  · have h1 : nbits n = n.log2 + 1 := by unfold nbits; rw [if_neg h]
    have h2 : nbits (n + n) = (n + n).log2 + 1 := by unfold nbits; rw [if_neg (by omega)]
    have h3 : (n + n).log2 = n.log2 + 1 := by rw [show n + n = 2 * n from by omega, Nat.log2_two_mul h]
    rw [if_neg (by omega)]
    omega
theorem sub_sign_neg {x y : Int} (h : x < y) : (x - y).sign = -1 := Int.sign_eq_neg_one_of_neg (by omega)
theorem sub_sign_pos {x y : Int} (h : x < y) : (y - x).sign = 1 := Int.sign_eq_one_of_pos (by omega)
theorem sign_mul_pos (a z : Int) (h : 0 < z) : (a * z).sign = a.sign := by
  rw [Int.sign_mul, Int.sign_eq_one_of_pos h, Int.mul_one]

theorem Order_all (a b c : Bool) (r s u : ByteArray) (w : World) (ht : HasTab w) : Calls Tryd.prog 5 #[.agg #[.bool a, .string r], .agg #[.bool b, .string s], .agg #[.bool c, .string u]] w (RetB true w) := by
  have HAW : ∀ W, Below w.heap.size w W → Calls Tryd.prog 10 #[] W (RetB true W) := fun W h => awake_any W (ht.below h)
  have HRI := fun (A : Option Addr) n W h => right_any A n [(a, r), (b, s), (c, u)] W h (by simp)
  cases hr : (([(a, r), (b, s), (c, u)].all fun p => vld p.1 p.2) && [(a, r), (b, s), (c, u)].all fun p => decide (p.2.size ≤ 60)) with
  | false =>
    rw [hr] at HRI
    exact Order_no a b c r s u w HAW HRI
  | true =>
    rw [hr] at HRI
    simp only [List.all_cons, List.all_nil, Bool.and_true, Bool.and_eq_true, decide_eq_true_eq] at hr
    obtain ⟨⟨v1, v2, v3⟩, f1, f2, f3⟩ := hr
    obtain ⟨e1, e2⟩ := vld_form v1
    obtain ⟨e3, e4⟩ := vld_form v2
    obtain ⟨e5, e6⟩ := vld_form v3
    generalize ival a r = x at *
    generalize ival b s = y at *
    generalize ival c u = z at *
    subst e1 e2 e3 e4 e5 e6
    have hx : Bd 60 x := (Bd.of_size x).mono f1
    have hy : Bd 60 y := (Bd.of_size y).mono f2
    have hz : Bd 60 z := (Bd.of_size z).mono f3
    have hb := nbits_le hx
    have A1 := fun W => Add_any x z W (hx.mono (by omega)) (hz.mono (by omega))
    have A2 := fun W => Add_any y z W (hy.mono (by omega)) (hz.mono (by omega))
    have A3 := fun W => Add_any x x W (hx.mono (by omega)) (hx.mono (by omega))
    have M1 := fun W => Mul_any x z W (hx.mono (by omega)) (hz.mono (by omega))
    have M2 := fun W => Mul_any y z W (hy.mono (by omega)) (hz.mono (by omega))
    have C3 := fun W => Cmp_any y z W (hy.mono (by omega)) (hz.mono (by omega))
    have C4 := fun W => Cmp_any x z W (hx.mono (by omega)) (hz.mono (by omega))
    have G2 := Sign_any z
    have B2 := fun W => Bits_any x W (hx.mono (by omega))
    obtain ⟨mb, hmb⟩ : ∃ mb : Int, (if (nbits x.natAbs : Int) < 1 then (nbits x.natAbs : Int) else 1) = mb := ⟨_, rfl⟩
    have hm0 : 0 ≤ mb ∧ mb ≤ 1 := by rw [← hmb]; split <;> omega
    have HWB : IntKind.i64.wrap ((nbits x.natAbs : Int) + mb) = (nbits x.natAbs : Int) + mb := wr64 (by omega) (by omega)
    have B1 : ∀ W, Calls Tryd.prog 21 #[vI (x + x)] W (RetN ((nbits x.natAbs : Int) + mb) W) := fun W => by
      have h := Bits_any (x + x) W ((hx.add hx).mono (by omega))
      rw [show (x + x).natAbs = x.natAbs + x.natAbs from by omega, nbits_twice, hmb] at h
      rwa [Int.natCast_add, Int.toNat_of_nonneg hm0.1] at h
    have cmp : ∀ (p q : Int) (k : Int), Bd 200 p → Bd 200 q → (p - q).sign = k → ∀ W, Calls Tryd.prog 20 #[vI p, vI q] W (RetN k W) := fun p q k h1 h2 h3 W => by
      have h := Cmp_any p q W (h1.mono (by omega)) (h2.mono (by omega))
      rwa [h3] at h
    have sgn : ∀ (p : Int) (k : Int), p.sign = k → ∀ W, Calls Tryd.prog 19 #[vI p] W (RetN k W) := fun p k h W => by
      have h1 := Sign_any p W
      rwa [h] at h1
    have hx2 : Bd 200 x := hx.mono (by omega)
    have hy2 : Bd 200 y := hy.mono (by omega)
    have hxz : Bd 200 (x + z) := (hx.add hz).mono (by omega)
    have hyz : Bd 200 (y + z) := (hy.add hz).mono (by omega)
    have hpz : Bd 200 (x * z) := (hx.mul hz).mono (by omega)
    have hqz : Bd 200 (y * z) := (hy.mul hz).mono (by omega)
    have S1 := fun W => Sub_any x y W (hx.mono (by omega)) (hy.mono (by omega))
    have ez : ∀ k, (x - y).sign = k → (x + z - (y + z)).sign = k := fun k h => by rw [show x + z - (y + z) = x - y from by omega]; exact h
    have em : 0 < z → ∀ k, (x - y).sign = k → (x * z - y * z).sign = k := fun h0 k h => by rw [← Int.sub_mul, sign_mul_pos _ _ h0]; exact h
    rcases Int.lt_trichotomy x y with h | h | h
    · have k1 : (x - y).sign = -1 := sub_sign_neg h
      have k2 : (y - x).sign = 1 := sub_sign_pos h
      have hne : x ≠ y := by omega
      by_cases hyz' : z < y
      · have h3 : 0 < (y - z).sign := by rw [sub_sign_pos hyz']; omega
        by_cases h5 : 0 < z
        · exact Order_lt1p x y z (x + z) (y + z) (x - y) (x * z) (y * z) (x + x) _ 0 _ _ mb w HAW HRI (cmp x y _ hx2 hy2 k1) (cmp y x _ hy2 hx2 k2) C3 h3 A1 A2 (cmp _ _ _ hxz hyz (ez _ k1)) S1 (sgn _ _ k1) G2 (Int.sign_pos_iff.2 h5) M1 M2 (cmp _ _ _ hpz hqz (em h5 _ k1)) A3 B1 B2 hmb HWB hne
        · exact Order_lt1n x y z (x + z) (y + z) (x - y) (x * z) (y * z) (x + x) _ 0 _ _ mb w HAW HRI (cmp x y _ hx2 hy2 k1) (cmp y x _ hy2 hx2 k2) C3 h3 A1 A2 (cmp _ _ _ hxz hyz (ez _ k1)) S1 (sgn _ _ k1) G2 (Int.sign_nonpos_iff.2 (by omega)) A3 B1 B2 hmb HWB hne
      · have h3 : (y - z).sign ≤ 0 := Int.sign_nonpos_iff.2 (by omega)
        have h4 : (x - z).sign ≤ 0 := Int.sign_nonpos_iff.2 (by omega)
        by_cases h5 : 0 < z
        · exact Order_lt2p x y z (x + z) (y + z) (x - y) (x * z) (y * z) (x + x) _ _ _ _ mb w HAW HRI (cmp x y _ hx2 hy2 k1) (cmp y x _ hy2 hx2 k2) C3 h3 C4 h4 A1 A2 (cmp _ _ _ hxz hyz (ez _ k1)) S1 (sgn _ _ k1) G2 (Int.sign_pos_iff.2 h5) M1 M2 (cmp _ _ _ hpz hqz (em h5 _ k1)) A3 B1 B2 hmb HWB hne
        · exact Order_lt2n x y z (x + z) (y + z) (x - y) (x * z) (y * z) (x + x) _ _ _ _ mb w HAW HRI (cmp x y _ hx2 hy2 k1) (cmp y x _ hy2 hx2 k2) C3 h3 C4 h4 A1 A2 (cmp _ _ _ hxz hyz (ez _ k1)) S1 (sgn _ _ k1) G2 (Int.sign_nonpos_iff.2 (by omega)) A3 B1 B2 hmb HWB hne
    · subst h
      have k1 : (x - x).sign = 0 := by rw [Int.sub_self]; rfl
      by_cases hyz' : z < x
      · have h3 : 0 < (x - z).sign := by rw [sub_sign_pos hyz']; omega
        by_cases h5 : 0 < z
        · exact Order_eq1p x z (x + z) 0 (x - x) (x * z) 0 (x + x) _ 0 _ _ mb w HAW HRI (cmp x x _ hx2 hx2 k1) C3 h3 A1 (cmp _ _ _ hxz hxz (ez _ k1)) S1 (sgn _ _ k1) G2 (Int.sign_pos_iff.2 h5) M1 (cmp _ _ _ hpz hpz (em h5 _ k1)) A3 B1 B2 hmb HWB
        · exact Order_eq1n x z (x + z) 0 (x - x) (x * z) 0 (x + x) _ 0 _ _ mb w HAW HRI (cmp x x _ hx2 hx2 k1) C3 h3 A1 (cmp _ _ _ hxz hxz (ez _ k1)) S1 (sgn _ _ k1) G2 (Int.sign_nonpos_iff.2 (by omega)) A3 B1 B2 hmb HWB
      · have h3 : (x - z).sign ≤ 0 := Int.sign_nonpos_iff.2 (by omega)
        by_cases h5 : 0 < z
        · exact Order_eq2p x z (x + z) 0 (x - x) (x * z) 0 (x + x) _ 0 _ _ mb w HAW HRI (cmp x x _ hx2 hx2 k1) C3 h3 A1 (cmp _ _ _ hxz hxz (ez _ k1)) S1 (sgn _ _ k1) G2 (Int.sign_pos_iff.2 h5) M1 (cmp _ _ _ hpz hpz (em h5 _ k1)) A3 B1 B2 hmb HWB
        · exact Order_eq2n x z (x + z) 0 (x - x) (x * z) 0 (x + x) _ 0 _ _ mb w HAW HRI (cmp x x _ hx2 hx2 k1) C3 h3 A1 (cmp _ _ _ hxz hxz (ez _ k1)) S1 (sgn _ _ k1) G2 (Int.sign_nonpos_iff.2 (by omega)) A3 B1 B2 hmb HWB
    · have k1 : (x - y).sign = 1 := sub_sign_pos h
      have k2 : (y - x).sign = -1 := sub_sign_neg h
      have hne : x ≠ y := by omega
      by_cases h5 : 0 < z
      · exact Order_gtp x y z (x + z) (y + z) (x - y) (x * z) (y * z) (x + x) 0 0 _ _ mb w HAW HRI (cmp x y _ hx2 hy2 k1) (cmp y x _ hy2 hx2 k2) A1 A2 (cmp _ _ _ hxz hyz (ez _ k1)) S1 (sgn _ _ k1) G2 (Int.sign_pos_iff.2 h5) M1 M2 (cmp _ _ _ hpz hqz (em h5 _ k1)) A3 B1 B2 hmb HWB hne
      · exact Order_gtn x y z (x + z) (y + z) (x - y) (x * z) (y * z) (x + x) 0 0 _ _ mb w HAW HRI (cmp x y _ hx2 hy2 k1) (cmp y x _ hy2 hx2 k2) A1 A2 (cmp _ _ _ hxz hyz (ez _ k1)) S1 (sgn _ _ k1) G2 (Int.sign_nonpos_iff.2 (by omega)) A3 B1 B2 hmb HWB hne
end Go.Proofs.YtboolbcckfldaaaDoor
