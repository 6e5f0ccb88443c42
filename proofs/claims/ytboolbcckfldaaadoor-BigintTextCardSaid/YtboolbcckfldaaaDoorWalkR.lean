import Derived.Test.YtboolbcckfldaaaDoorWalkQ
import Derived.Test.YtboolbcckfldaaaDoorReg
import Derived.Deep.DeepCutAuto
import Derived.Outline
namespace Go.Proofs.YtboolbcckfldaaaDoor
open Go.RowKit
set_option linter.unusedVariables false
set_option linter.unusedSimpArgs false

/-- two arguments and two results in memory -/
structure Box4 (w W : World) (t : TypeId) (a b c d q r u v : Value) : Prop where
  x : Two W w.heap.size t a b
  y : Two W (w.heap.size + 1) t c d
  z : Two W (w.heap.size + 1 + 1) t q r
  u : Two W (w.heap.size + 1 + 1 + 1) t u v
  b : Below w.heap.size w W
  s : w.heap.size + 4 ≤ W.heap.size
theorem Box4.new (w : World) (t : TypeId) (a b c d q r u v : Value) : Box4 w ((((w.alloc (.cells #[a, b] t)).alloc (.cells #[c, d] t)).alloc (.cells #[q, r] t)).alloc (.cells #[u, v] t)) t a b c d q r u v := by
  have h1 := Two.new w t a b
  have h2 := Two.new (w.alloc (.cells #[a, b] t)) t c d
  have h3 := Two.new ((w.alloc (.cells #[a, b] t)).alloc (.cells #[c, d] t)) t q r
  have h4 := Two.new (((w.alloc (.cells #[a, b] t)).alloc (.cells #[c, d] t)).alloc (.cells #[q, r] t)) t u v
  refine ⟨((h1.alloc _).alloc _).alloc _, ?_, ?_, ?_, ((((Below.refl _ _).alloc (Nat.le_refl _) _).alloc (by simp) _).alloc (by simp; omega) _).alloc (by simp; omega) _, by simp⟩
  · have := (h2.alloc (.cells #[q, r] t)).alloc (.cells #[u, v] t); simpa using this
  · have := h3.alloc (.cells #[u, v] t); simpa using this
  · simpa using h4
theorem Box4.below {w W W' : World} {t : TypeId} {a b c d q r u v : Value} (h : Box4 w W t a b c d q r u v) (hb : Below W.heap.size W W') : Box4 w W' t a b c d q r u v :=
  ⟨h.x.below hb h.x.lt, h.y.below hb h.y.lt, h.z.below hb h.z.lt, h.u.below hb h.u.lt, h.b.trans (hb.mono (by have := h.s; omega)), by have := hb.size; have := h.s; omega⟩
theorem Box4.drewN {w W : World} {t : TypeId} {a b c d q r u v : Value} (h : Box4 w W t a b c d q r u v) (n : Nat) : Box4 w (W.drewN n) t a b c d q r u v := ⟨h.x, h.y, h.z, h.u, below_drewN h.b n, h.s⟩
theorem Box4.drew {w W : World} {t : TypeId} {a b c d q r u v : Value} (h : Box4 w W t a b c d q r u v) : Box4 w W.drew t a b c d q r u v := h.drewN 1
theorem Box4.setq {w W : World} {t : TypeId} {a b c d q r u v : Value} (h : Box4 w W t a b c d q r u v) (q' r' : Value) : Box4 w ((W.setCell ⟨w.heap.size + 1 + 1, 0, none⟩ q').setCell ⟨w.heap.size + 1 + 1, 1, none⟩ r') t a b c d q' r' u v :=
  ⟨(h.x.far (by simp; omega) _).far (by simp; omega) _, (h.y.far (by simp) _).far (by simp) _, h.z.set q' r', (h.u.far (by simp) _).far (by simp) _, (h.b.setCell (by simp; omega) _).setCell (by simp; omega) _, by have := h.s; simpa [World.setCell] using this⟩
theorem Box4.setr {w W : World} {t : TypeId} {a b c d q r u v : Value} (h : Box4 w W t a b c d q r u v) (u' v' : Value) : Box4 w ((W.setCell ⟨w.heap.size + 1 + 1 + 1, 0, none⟩ u').setCell ⟨w.heap.size + 1 + 1 + 1, 1, none⟩ v') t a b c d q r u' v' :=
  ⟨(h.x.far (by simp; omega) _).far (by simp; omega) _, (h.y.far (by simp) _).far (by simp) _, (h.z.far (by simp) _).far (by simp) _, h.u.set u' v', (h.b.setCell (by simp; omega) _).setCell (by simp; omega) _, by have := h.s; simpa [World.setCell] using this⟩
theorem Box4.seen {w W : World} {t : TypeId} {a b c d q r u v : Value} (h : Box4 w W t a b c d q r u v) : W.cell? ⟨w.heap.size, 0, none⟩ = some a ∧ W.cell? ⟨w.heap.size, 1, none⟩ = some b ∧ W.cell? ⟨w.heap.size + 1, 0, none⟩ = some c ∧ W.cell? ⟨w.heap.size + 1, 1, none⟩ = some d :=
  ⟨h.x.cells.1, h.x.cells.2, h.y.cells.1, h.y.cells.2⟩

theorem Box4.seen2 {w W : World} {t : TypeId} {a b c d q r u v : Value} (h : Box4 w W t a b c d q r u v) : W.cell? ⟨w.heap.size + 1, 0, none⟩ = some c ∧ W.cell? ⟨w.heap.size + 1, 1, none⟩ = some d ∧ W.cell? ⟨w.heap.size + 1 + 1, 0, none⟩ = some q ∧ W.cell? ⟨w.heap.size + 1 + 1, 1, none⟩ = some r ∧ W.cell? ⟨w.heap.size + 1 + 1 + 1, 0, none⟩ = some u ∧ W.cell? ⟨w.heap.size + 1 + 1 + 1, 1, none⟩ = some v :=
  ⟨h.y.cells.1, h.y.cells.2, h.z.cells.1, h.z.cells.2, h.u.cells.1, h.u.cells.2⟩
theorem Box4.seeny {w W : World} {t : TypeId} {a b c d q r u v : Value} (h : Box4 w W t a b c d q r u v) : W.cell? ⟨w.heap.size + 1, 0, none⟩ = some c ∧ W.cell? ⟨w.heap.size + 1, 1, none⟩ = some d :=
  ⟨h.y.cells.1, h.y.cells.2⟩
theorem tdiv_sgnd (x y : Int) : sgnd (!(sg x == sg y)) (x.natAbs / y.natAbs) = x.tdiv y := by
  unfold sgnd sg
  rcases Int.lt_or_le x 0 with hx | hx <;> rcases Int.lt_or_le y 0 with hy | hy
  · obtain ⟨a, rfl⟩ : ∃ a : Nat, x = -(a : Int) := ⟨x.natAbs, by omega⟩
    obtain ⟨b, rfl⟩ : ∃ b : Nat, y = -(b : Int) := ⟨y.natAbs, by omega⟩
    simp only [hx, hy, decide_true, beq_self_eq_true, Bool.not_true, Int.natAbs_neg, Int.natAbs_natCast, Int.tdiv_neg, Int.neg_tdiv, Int.neg_neg]
    simp [Int.ofNat_tdiv]
  · obtain ⟨a, rfl⟩ : ∃ a : Nat, x = -(a : Int) := ⟨x.natAbs, by omega⟩
    obtain ⟨b, rfl⟩ := Int.eq_ofNat_of_zero_le hy
    have hy' : ¬ ((b : Int) < 0) := by omega
    simp only [hx, hy', decide_true, decide_false, Int.natAbs_neg, Int.natAbs_natCast, Int.neg_tdiv]
    simp [Int.ofNat_tdiv]
  · obtain ⟨a, rfl⟩ := Int.eq_ofNat_of_zero_le hx
    obtain ⟨b, rfl⟩ : ∃ b : Nat, y = -(b : Int) := ⟨y.natAbs, by omega⟩
    have hx' : ¬ ((a : Int) < 0) := by omega
    simp only [hx', hy, decide_true, decide_false, Int.natAbs_neg, Int.natAbs_natCast, Int.tdiv_neg]
    simp [Int.ofNat_tdiv]
  · obtain ⟨a, rfl⟩ := Int.eq_ofNat_of_zero_le hx
    obtain ⟨b, rfl⟩ := Int.eq_ofNat_of_zero_le hy
    have hx' : ¬ ((a : Int) < 0) := by omega
    have hy' : ¬ ((b : Int) < 0) := by omega
    simp only [hx', hy', decide_false, Int.natAbs_natCast]
    simp [Int.ofNat_tdiv]
theorem tmod_sgnd (x y : Int) : sgnd (sg x) (x.natAbs % y.natAbs) = x.tmod y := by
  unfold sgnd sg
  rcases Int.lt_or_le x 0 with hx | hx
  · obtain ⟨a, rfl⟩ : ∃ a : Nat, x = -(a : Int) := ⟨x.natAbs, by omega⟩
    have hk : (-(a : Int)).tmod y = -((a : Int).tmod (y.natAbs : Int)) := by
      rcases Int.natAbs_eq y with hy | hy
      · rw [Int.neg_tmod, ← hy]
      · rw [Int.neg_tmod]; conv => lhs; rw [hy, Int.tmod_neg]
    rw [hk, Int.tmod_eq_emod_of_nonneg (by omega), ← Int.natCast_emod]
    simp only [hx, decide_true, if_true, Int.natAbs_neg, Int.natAbs_natCast]
  · obtain ⟨a, rfl⟩ := Int.eq_ofNat_of_zero_le hx
    have hx' : ¬ ((a : Int) < 0) := by omega
    have hk : (a : Int).tmod y = (a : Int).tmod (y.natAbs : Int) := by
      rcases Int.natAbs_eq y with hy | hy
      · rw [← hy]
      · conv => lhs; rw [hy, Int.tmod_neg]
    rw [hk, Int.tmod_eq_emod_of_nonneg (by omega), ← Int.natCast_emod]
    simp [hx']

theorem fdiv_unique {x y q r : Int} (h : x = q * y + r) (hp : 0 < y → 0 ≤ r ∧ r < y) (hn : y < 0 → y < r ∧ r ≤ 0) (hy : y ≠ 0) : x.fdiv y = q ∧ x.fmod y = r := by
  rcases Int.lt_or_gt_of_ne hy with h1 | h1
  · obtain ⟨a, b⟩ := hn h1
    exact (Int.fdiv_fmod_unique' h1).2 ⟨by rw [Int.mul_comm, Int.add_comm]; exact h.symm, a, b⟩
  · obtain ⟨a, b⟩ := hp h1
    exact (Int.fdiv_fmod_unique h1).2 ⟨by rw [Int.mul_comm, Int.add_comm]; exact h.symm, a, b⟩
theorem tmod_facts (x y : Int) (hy : y ≠ 0) : x = (x.tdiv y) * y + x.tmod y ∧ (x.tmod y).natAbs < y.natAbs ∧ (0 ≤ x → 0 ≤ x.tmod y) ∧ (x < 0 → x.tmod y ≤ 0) := by
  refine ⟨by have := Int.tdiv_mul_add_tmod x y; omega, ?_, fun h => Int.tmod_nonneg y h, fun h => ?_⟩
  · rw [← tmod_sgnd, sgnd_natAbs]; exact Nat.mod_lt _ (by omega)
  · rw [← tmod_sgnd]; unfold sgnd sg; simp [h]; omega
theorem fdiv_same {x y : Int} (hy : y ≠ 0) (h : x.tmod y = 0 ∨ sg x = sg y) : x.fdiv y = x.tdiv y ∧ x.fmod y = x.tmod y := by
  obtain ⟨h1, h2, h3, h4⟩ := tmod_facts x y hy
  have hs : x.tmod y = 0 ∨ (x < 0 ↔ y < 0) := h.imp id (fun h => by unfold sg at h; simpa using h)
  exact fdiv_unique h1 (fun _ => by omega) (fun _ => by omega) hy
theorem fdiv_less {x y : Int} (hy : y ≠ 0) (h : x.tmod y ≠ 0) (h' : sg x ≠ sg y) : x.fdiv y = x.tdiv y - 1 ∧ x.fmod y = x.tmod y + y := by
  obtain ⟨h1, h2, h3, h4⟩ := tmod_facts x y hy
  have hs : ¬ (x < 0 ↔ y < 0) := fun e => h' (by unfold sg; simp [e])
  refine fdiv_unique ?_ (fun _ => by omega) (fun _ => by omega) hy
  rw [Int.sub_mul, Int.one_mul]; omega
theorem Bd.tdiv {k : Nat} {x y : Int} (h : Bd k x) : Bd k (x.tdiv y) := h.le (by rw [← tdiv_sgnd, sgnd_natAbs]; exact Nat.div_le_self _ _)
theorem Bd.tmod {k : Nat} {x y : Int} (h : Bd k x) : Bd k (x.tmod y) := h.le (by rw [← tmod_sgnd, sgnd_natAbs]; exact Nat.mod_le _ _)
theorem Bd.one {k : Nat} (h : 1 ≤ k) : Bd k 1 := by
  unfold Bd
  have : 256 ^ 1 ≤ 256 ^ k := Nat.pow_le_pow_right (by decide) h
  exact Nat.lt_of_lt_of_le (by decide) this

set_option maxHeartbeats 4000000 in
set_option maxRecDepth 100000 in
theorem DivMod_any (x y : Int) (w : World) (hx : Bd 100000000 x) (hy : Bd 100000000 y) (hy0 : y ≠ 0) :
    Calls Tryd.prog 28 #[vI x, vI y] w fun e w' => e = .returned (.tuple #[vI (x.fdiv y), vI (x.fmod y), .int .i64 0]) ∧ Below w.heap.size w w' := by
  have h0 := Box4.new w 23 (.bool (sg x)) (.string (mg x)) (.bool (sg y)) (.string (mg y)) (.bool false) (.string ⟨#[]⟩) (.bool false) (.string ⟨#[]⟩)
  have lx := hx.digs
  have ly := hy.digs
  have HX := fun W => Lib.hid (of_mg x W (hx.mono (by omega)))
  have HY := fun W => Lib.hid (of_mg y W (hy.mono (by omega)))
  obtain ⟨e1, e2⟩ := mg_full hy0
  have hyn : y.natAbs ≠ 0 := by omega
  have hy00 := Lib.hid hy0
  have HSUB := fun W => Lib.hid (Sub_any (x.tdiv y) 1 W (hx.tdiv.mono (by omega)) (Bd.one (by omega)))
  have HADD := fun W => Lib.hid (Add_any (x.tmod y) y W (hx.tmod.mono (by omega)) (hy.mono (by omega)))
  clear hx hy hy0
  go_enter Tryd.func28, Tryd.ntmps28
  go_wp2_with fail
  obtain ⟨W0, hW0⟩ : ∃ W0, W0 = ((((w.alloc (.cells #[.bool (sg x), .string (mg x)] 23)).alloc (.cells #[.bool (sg y), .string (mg y)] 23)).alloc (.cells #[.bool false, .string ⟨#[]⟩] 23)).alloc (.cells #[.bool false, .string ⟨#[]⟩] 23)) := ⟨_, rfl⟩
  rw [← hW0] at h0 ⊢
  clear hW0
  refine (Valid_yes x W0).mono ?_
  rintro e W1 ⟨rfl, hb⟩
  have h1 := h0.below hb
  obtain ⟨y0, y1⟩ := h1.y.cells
  clear hb h0
  go_wp2_with fail
  refine (Valid_yes y W1).mono ?_
  rintro e W2 ⟨rfl, hb⟩
  have h2 := h1.below hb
  clear hb h1 y0 y1
  obtain ⟨y0, y1⟩ := h2.y.cells
  go_wp2_with fail
  have hd : Box4 w W2.drew 23 (.bool (sg x)) (.string (mg x)) (.bool (sg y)) (.string (mg y)) (.bool false) (.string ⟨#[]⟩) (.bool false) (.string ⟨#[]⟩) := h2.drewN 1
  clear y0 y1
  go_region_held3 (fun W => W.cell? ⟨w.heap.size, 0, none⟩ = some (.bool (sg x)) ∧ W.cell? ⟨w.heap.size, 1, none⟩ = some (.string (mg x)) ∧ W.cell? ⟨w.heap.size + 1, 0, none⟩ = some (.bool (sg y)) ∧ W.cell? ⟨w.heap.size + 1, 1, none⟩ = some (.string (mg y)))
    (first | exact Box4.seen (by assumption))
    (first
      | (go_at_call_of 39 (Value.string (mg x)); refine (HX _).out.mono ?_; rintro e W' ⟨A, c, rfl, hc1, hrx, hb⟩; have hS := Box4.below (by assumption) hb)
      | (go_at_call_of 39 (Value.string (mg y)); refine (HY _).out.mono ?_; rintro e W'' ⟨B, d, rfl, hc2, hry, hb2⟩; have hS2 := Box4.below (by assumption) hb2; have hrx2 := hrx.below hb2)
      | (go_at_call 44; refine (divide_any A B c d _ _ _ hrx2 hry (by omega) (by omega) hc1 hc2 hyn).mono ?_; rintro e W3 ⟨C, k, D, l, rfl, hk, hl, hrq, hrr, hb3⟩; have hS3 := Box4.below (by assumption) hb3))
  go_upto_region 6 with fail
  go_cut [7] (fun v7 wx => Box4 w wx 23 (.bool (sg x)) (.string (mg x)) (.bool (sg y)) (.string (mg y)) (.bool (sg (x.tdiv y))) (.string (mg (x.tdiv y))) (.bool (sg (x.tmod y))) (.string (mg (x.tmod y))))
  case first =>
    have hd : Box4 w (_ : World).drew 23 (.bool (sg x)) (.string (mg x)) (.bool (sg y)) (.string (mg y)) (.bool false) (.string ⟨#[]⟩) (.bool false) (.string ⟨#[]⟩) := hS3.drewN 1
    have lq : (digs 4294967296 (x.natAbs / y.natAbs)).length ≤ 1000000000 := by
      have := digs_len_mono (B := 4294967296) (by decide) (Nat.div_le_self x.natAbs y.natAbs); omega
    have lr : (digs 4294967296 (x.natAbs % y.natAbs)).length ≤ 1000000000 := by
      have := digs_len_mono (B := 4294967296) (by decide) (Nat.mod_le x.natAbs y.natAbs); omega
    have hrq' := hrq.drew
    have hrr' := hrr.drew
    go_region_held3 (fun W => W.cell? ⟨w.heap.size, 0, none⟩ = some (.bool (sg x)) ∧ W.cell? ⟨w.heap.size, 1, none⟩ = some (.string (mg x)) ∧ W.cell? ⟨w.heap.size + 1, 0, none⟩ = some (.bool (sg y)) ∧ W.cell? ⟨w.heap.size + 1, 1, none⟩ = some (.string (mg y)))
      (first | with_reducible exact hd.seen | with_reducible exact hS5.seen | with_reducible exact hS6.seen | with_reducible exact (hS6.setq _ _).seen | with_reducible exact ((hS6.setq _ _).setr _ _).seen)
      (first
        | (go_at_call_of 38 (Value.slice C (digs 4294967296 (x.natAbs / y.natAbs)).length k); refine (with_any C k _ _ _ hrq' lq).mono ?_; rintro e W5 ⟨rfl, hb5⟩; have hS5 := hd.below hb5; have hrr2 := hrr'.below hb5)
        | (go_at_call_of 38 (Value.slice D (digs 4294967296 (x.natAbs % y.natAbs)).length l); refine (with_any D l _ _ _ hrr2 lr).mono ?_; rintro e W6 ⟨rfl, hb6⟩; have hS6 := hS5.below hb6; obtain ⟨f0, f1⟩ := hS6.z.free; obtain ⟨z0, z1⟩ := hS6.z.cells; obtain ⟨g0, g1⟩ := hS6.u.free; obtain ⟨u0, u1⟩ := hS6.u.cells))
    go_wp2_with fail
    go_meet
    rw [tdiv_sgnd, tmod_sgnd]
    exact (hS6.setq _ _).setr _ _
  case rest =>
    have h3 := hcut
    clear hcut h2
    obtain ⟨x0, x1⟩ := h3.x.cells
    obtain ⟨y0, y1⟩ := h3.y.cells
    obtain ⟨z0, z1⟩ := h3.z.cells
    obtain ⟨u0, u1⟩ := h3.u.cells
    clear HX HY e1 e2 lx ly hyn
    by_cases hm : x.tmod y = 0
    rotate_left 1
    by_cases hs : sg x = sg y
    rotate_left 1
    focus
      have hs' : (sg x == sg y) = false := by simpa using hs
      obtain ⟨m1, m2⟩ := mg_full hm
      have hf := Lib.hid (fdiv_less hy00.out hm hs)
      clear hm hs
      go_wp2_with fail
      clear x0 x1 y0 y1 z0 z1 u0 u1
      have hd := h3.drewN 1
      obtain ⟨z0, z1⟩ := hd.z.cells
      obtain ⟨u0, u1⟩ := hd.u.cells
      clear z0 z1 u0 u1
      refine region_by (fun W => W.cell? ⟨w.heap.size + 1, 0, none⟩ = some (.bool (sg y)) ∧ W.cell? ⟨w.heap.size + 1, 1, none⟩ = some (.string (mg y)) ∧ W.cell? ⟨w.heap.size + 1 + 1, 0, none⟩ = some (.bool (sg (x.tdiv y))) ∧ W.cell? ⟨w.heap.size + 1 + 1, 1, none⟩ = some (.string (mg (x.tdiv y))) ∧ W.cell? ⟨w.heap.size + 1 + 1 + 1, 0, none⟩ = some (.bool (sg (x.tmod y))) ∧ W.cell? ⟨w.heap.size + 1 + 1 + 1, 1, none⟩ = some (.string (mg (x.tmod y)))) 6 [(0, true), (3, true), (4, true), (1, false), (2, false), (5, false)] (by kernel_rfl) (by kernel_rfl) hd.seen2 ?_
      refine wpBy.look _ (vI (x.tdiv y)) rfl (by kernel_rfl) (by intro W hW; obtain ⟨s1, s2, s3, s4, s5, s6⟩ := hW; go_simp) ?_
      try simp only [Act.put, List.setIfInBounds_toArray, List.set_cons_zero, List.set_cons_succ]
      refine wpBy.look _ (vI (x.tmod y)) rfl (by kernel_rfl) (by intro W hW; obtain ⟨s1, s2, s3, s4, s5, s6⟩ := hW; go_simp) ?_
      try simp only [Act.put, List.setIfInBounds_toArray, List.set_cons_zero, List.set_cons_succ]
      refine wpBy.look _ (vI y) rfl (by kernel_rfl) (by intro W hW; obtain ⟨s1, s2, s3, s4, s5, s6⟩ := hW; go_simp) ?_
      try simp only [Act.put, List.setIfInBounds_toArray, List.set_cons_zero, List.set_cons_succ]
      refine wpBy.do _ rfl (fun K hK => ?_)
      go_simp
      refine (Of_any 1 _ (by omega) (by omega)).mono ?_
      rintro e W5 ⟨rfl, hb5⟩
      have hA := hd.below hb5
      dsimp only
      refine hK.out _ _ hA.seen2 ?_
      clear hK K
      try simp only [Act.put, List.setIfInBounds_toArray, List.set_cons_zero, List.set_cons_succ]
      refine wpBy.do _ rfl (fun K hK => ?_)
      go_simp
      refine (HSUB _).out.mono ?_
      rintro e W6 ⟨rfl, hb6⟩
      have hB := hA.below hb6
      dsimp only
      refine hK.out _ _ hB.seen2 ?_
      clear hK K
      try simp only [Act.put, List.setIfInBounds_toArray, List.set_cons_zero, List.set_cons_succ]
      refine wpBy.do _ rfl (fun K hK => ?_)
      go_simp
      refine (HADD _).out.mono ?_
      rintro e W7 ⟨rfl, hb7⟩
      have hC := hB.below hb7
      dsimp only
      refine hK.out _ _ hC.seen2 ?_
      clear hK K
      try simp only [Act.put, List.setIfInBounds_toArray, List.set_cons_zero, List.set_cons_succ]
      obtain ⟨f0, f1⟩ := hC.z.free
      obtain ⟨z0, z1⟩ := hC.z.cells
      obtain ⟨g0, g1⟩ := hC.u.free
      obtain ⟨u0, u1⟩ := hC.u.cells
      simp only [wpBy, List.drop_succ_cons, List.drop_zero]
      go_wp2_with fail
      refine NoPanic.normal ?_
      have hF := (hC.setq (.bool (sg (x.tdiv y - 1))) (.string (mg (x.tdiv y - 1)))).setr (.bool (sg (x.tmod y + y))) (.string (mg (x.tmod y + y)))
      rw [← hf.out.1, ← hf.out.2] at hF
      rw [← hf.out.1, ← hf.out.2]
      obtain ⟨wx, hwx⟩ : ∃ wx, wx = ((((W7.setCell ⟨w.heap.size + 1 + 1, 0, none⟩ (.bool (sg (x.fdiv y)))).setCell ⟨w.heap.size + 1 + 1, 1, none⟩ (.string (mg (x.fdiv y)))).setCell ⟨w.heap.size + 1 + 1 + 1, 0, none⟩ (.bool (sg (x.fmod y)))).setCell ⟨w.heap.size + 1 + 1 + 1, 1, none⟩ (.string (mg (x.fmod y)))) := ⟨_, rfl⟩
      rw [← hwx] at hF ⊢
      clear hwx z0 z1 u0 u1 f0 f1 g0 g1 hC hB hA hd h3
      go_wp2_with fail
    rotate_left 1
    focus
      obtain ⟨m1, m2⟩ := mg_empty hm
      have hf := fdiv_same hy00.out (.inl hm)
      have hF := h3
      rw [← hf.1, ← hf.2] at hF
      clear hm hf
      go_wp2_with fail
      clear x0 x1 y0 y1 z0 z1 u0 u1 h3
    rotate_left 1
    focus
      obtain ⟨m1, m2⟩ := mg_full hm
      have hs' : (sg x == sg y) = true := by simpa using hs
      have hf := fdiv_same hy00.out (.inr hs)
      have hF := h3
      rw [← hf.1, ← hf.2] at hF
      clear hm hs hf
      go_wp2_with fail
      clear x0 x1 y0 y1 z0 z1 u0 u1 h3
    all_goals
        have hd := hF.drew
        obtain ⟨z0, z1⟩ := hF.z.cells
        obtain ⟨f0, f1⟩ := hF.z.free
        obtain ⟨u0, u1⟩ := hF.u.cells
        obtain ⟨g0, g1⟩ := hF.u.free
        go_region_held3 (fun W => W.cell? ⟨w.heap.size + 1 + 1, 0, none⟩ = some (.bool (sg (x.fdiv y))) ∧ W.cell? ⟨w.heap.size + 1 + 1, 1, none⟩ = some (.string (mg (x.fdiv y))) ∧ W.cell? ⟨w.heap.size + 1 + 1 + 1, 0, none⟩ = some (.bool (sg (x.fmod y))) ∧ W.cell? ⟨w.heap.size + 1 + 1 + 1, 1, none⟩ = some (.string (mg (x.fmod y))))
          (first | with_reducible exact hd.seen2.2.2 | with_reducible exact (hF.setq _ _).drew.seen2.2.2 | with_reducible exact ((hF.setq _ _).setr _ _).drew.seen2.2.2)
          (fail)
        go_wp2_with fail
        have hG := ((hF.setq (.bool (sg (x.fdiv y))) (.string (mg (x.fdiv y)))).setr (.bool (sg (x.fmod y))) (.string (mg (x.fmod y)))).drew
        generalize World.drew (World.setCell _ _ _) = W9 at hG ⊢
        clear z0 z1 u0 u1 f0 f1 g0 g1 hd hF
        obtain ⟨z0, z1⟩ := hG.z.cells
        obtain ⟨u0, u1⟩ := hG.u.cells
        exact bodyPost_ret (v := .tuple #[vI (x.fdiv y), vI (x.fmod y), .int .i64 0]) (by simp [results, Tryd.results28, go_sem, vI, z0, z1, u0, u1]) rfl ⟨rfl, hG.b⟩
end Go.Proofs.YtboolbcckfldaaaDoor
