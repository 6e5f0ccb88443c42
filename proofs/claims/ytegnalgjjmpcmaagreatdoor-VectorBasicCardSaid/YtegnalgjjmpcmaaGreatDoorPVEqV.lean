/- Raw vectors, and comparing vectors for equality, as the program does. -/
import Derived.Test.YtegnalgjjmpcmaaGreatDoorPVVecR
import Derived.Test.YtegnalgjjmpcmaaGreatDoorPVFieV
import Derived.Test.YtegnalgjjmpcmaaGreatDoorPVK
namespace Go.Proofs.YtegnalgjjmpcmaaGreatDoor
open Go Go.RowKit
set_option maxRecDepth 100000
set_option linter.unusedVariables false
set_option linter.unusedSimpArgs false
def vZV : Value := .agg #[.bool false, .string ⟨#[]⟩, .bool false, .string ⟨#[]⟩, .bool false, .string ⟨#[]⟩, .bool false, .string ⟨#[]⟩, .bool false, .string ⟨#[]⟩, .bool false, .string ⟨#[]⟩, .bool false, .string ⟨#[]⟩, .bool false, .string ⟨#[]⟩, .bool false, .string ⟨#[]⟩, .bool false, .string ⟨#[]⟩, .bool false, .string ⟨#[]⟩, .bool false, .string ⟨#[]⟩, .bool false, .string ⟨#[]⟩, .bool false, .string ⟨#[]⟩, .bool false, .string ⟨#[]⟩]
def rvN (u : V3) : Rv := ⟨rwN u.x, rwN u.y, rwN u.z⟩
theorem vV_rv (u : V3) : vV u = vRV (rvN u) := rfl
def rZV : Rv := ⟨rZ, rZ, rZ⟩
def zzN : Nm := ⟨0, 0, 0, 0, 0⟩
theorem vZV_eq : vZV = vV ⟨zzN, zzN, zzN⟩ := by unfold vZV vV zzN; simp only [sg0, mg0]
theorem rZV_no : okRV rZV = false := by unfold okRV rZV; simp only [rZ_no]; rfl
theorem rZV_small : smallRV 80000000 rZV := ⟨rZ_small, rZ_small, rZ_small⟩
theorem okR_rwN {x : Nm} (h : Ok x) : okR (rwN x) = true := by
  have e : ∀ t : Int, vld (sg t) (mg t) = true ∧ ival (sg t) (mg t) = t := fun t => ⟨vld_sg t, ival_sg t⟩
  have hn : nmR (rwN x) = x := by unfold nmR rwN; simp only [(e _).2]
  unfold okR
  rw [hn]
  unfold vldR rwN
  simp only [(e _).1, decide_eq_true h.pos, decide_eq_true h.cop]
  rfl
theorem rwN_inj {x y : Nm} (h : rwN x = rwN y) : x = y := by
  unfold rwN at h
  simp only [Rw.mk.injEq] at h
  obtain ⟨a0, b0, a1, b1, a2, b2, a3, b3, a4, b4⟩ := h
  exact Nm.ext (sg_mg_inj a0 b0) (sg_mg_inj a1 b1) (sg_mg_inj a2 b2) (sg_mg_inj a3 b3) (sg_mg_inj a4 b4)
theorem rvN_inj {u v : V3} (h : rvN u = rvN v) : u = v := by
  unfold rvN at h
  simp only [Rv.mk.injEq] at h
  exact V3.ext (rwN_inj h.1) (rwN_inj h.2.1) (rwN_inj h.2.2)
theorem Rw.ext' {r s : Rw} (h0 : r.n0 = s.n0) (g0 : r.s0.toList = s.s0.toList) (h1 : r.n1 = s.n1) (g1 : r.s1.toList = s.s1.toList) (h2 : r.n2 = s.n2) (g2 : r.s2.toList = s.s2.toList) (h3 : r.n3 = s.n3) (g3 : r.s3.toList = s.s3.toList) (h4 : r.n4 = s.n4) (g4 : r.s4.toList = s.s4.toList) : r = s := by
  have t : ∀ {a b : ByteArray}, a.toList = b.toList → a = b := fun {a b} h => by
    rw [ByteArray.toList_eq, ByteArray.toList_eq] at h
    exact ByteArray.ext (Array.toList_inj.1 h)
  cases r; cases s
  simp only at *
  rw [h0, t g0, h1, t g1, h2, t g2, h3, t g3, h4, t g4]
set_option maxHeartbeats 4000000 in
theorem arr_eq8 (a0 a1 a2 a3 b0 b1 b2 b3 : Bool) (s0 s1 s2 s3 t0 t1 t2 t3 : ByteArray) (w : World) : (Op.equalIn 9998 24 (.agg #[.bool a0, .string s0, .bool a1, .string s1, .bool a2, .string s2, .bool a3, .string s3]) (.agg #[.bool b0, .string t0, .bool b1, .string t1, .bool b2, .string t2, .bool b3, .string t3])).run Tryz.prog w = .ok (decide (a0 = b0 ∧ s0.toList = t0.toList ∧ a1 = b1 ∧ s1.toList = t1.toList ∧ a2 = b2 ∧ s2.toList = t2.toList ∧ a3 = b3 ∧ s3.toList = t3.toList)) w := by
  rw [Op.equalIn]
  go_simp
  rw [show List.range' 0 4 = [0, 1, 2, 3] from rfl]
  have tw : ∀ {p q : Prop}, ¬ (p ∧ q) → p → ¬ q := fun h a b => h ⟨a, b⟩
  by_cases h0 : a0 = b0 ∧ s0.toList = t0.toList
  · obtain ⟨rfl, h0⟩ := h0
    by_cases h1 : a1 = b1 ∧ s1.toList = t1.toList
    · obtain ⟨rfl, h1⟩ := h1
      by_cases h2 : a2 = b2 ∧ s2.toList = t2.toList
      · obtain ⟨rfl, h2⟩ := h2
        by_cases h3 : a3 = b3 ∧ s3.toList = t3.toList
        · obtain ⟨rfl, h3⟩ := h3
          simp only [h0, h1, h2, h3, List.forIn_cons, List.forIn_nil]
          go_simp
        · simp only [h0, h1, h2, List.forIn_cons, List.forIn_nil]
          go_simp
          by_cases e : a3 = b3
          · have := tw h3 e
            subst e
            go_simp
          · go_simp
      · simp only [h0, h1, List.forIn_cons, List.forIn_nil]
        by_cases e : a2 = b2
        · have := tw h2 e
          subst e
          go_simp
        · go_simp
    · simp only [h0, List.forIn_cons, List.forIn_nil]
      by_cases e : a1 = b1
      · have := tw h1 e
        subst e
        go_simp
      · go_simp
  · simp only [List.forIn_cons, List.forIn_nil]
    by_cases e : a0 = b0
    · have := tw h0 e
      subst e
      go_simp
    · go_simp
theorem num_cases (r s : Rw) (h : r ≠ s) : (¬ (r.n0 = s.n0 ∧ r.s0.toList = s.s0.toList ∧ r.n1 = s.n1 ∧ r.s1.toList = s.s1.toList ∧ r.n2 = s.n2 ∧ r.s2.toList = s.s2.toList ∧ r.n3 = s.n3 ∧ r.s3.toList = s.s3.toList)) ∨
    ((r.n0 = s.n0 ∧ r.s0.toList = s.s0.toList ∧ r.n1 = s.n1 ∧ r.s1.toList = s.s1.toList ∧ r.n2 = s.n2 ∧ r.s2.toList = s.s2.toList ∧ r.n3 = s.n3 ∧ r.s3.toList = s.s3.toList) ∧ (r.n4 = s.n4 → ¬ r.s4.toList = s.s4.toList)) := by
  by_cases hc : r.n0 = s.n0 ∧ r.s0.toList = s.s0.toList ∧ r.n1 = s.n1 ∧ r.s1.toList = s.s1.toList ∧ r.n2 = s.n2 ∧ r.s2.toList = s.s2.toList ∧ r.n3 = s.n3 ∧ r.s3.toList = s.s3.toList
  · exact .inr ⟨hc, fun e1 e2 => h (Rw.ext' hc.1 hc.2.1 hc.2.2.1 hc.2.2.2.1 hc.2.2.2.2.1 hc.2.2.2.2.2.1 hc.2.2.2.2.2.2.1 hc.2.2.2.2.2.2.2 e1 e2)⟩
  · exact .inl hc
set_option maxHeartbeats 4000000 in
theorem eqV_same (r : Rv) (p q : Operand) (w : World) : (eqT .eql 28 p q (vRV r) (vRV r)).run Tryz.prog w = .ok (.bool true) w := by
  have h1 := arr_eq8 r.x.n0 r.x.n1 r.x.n2 r.x.n3 r.x.n0 r.x.n1 r.x.n2 r.x.n3 r.x.s0 r.x.s1 r.x.s2 r.x.s3 r.x.s0 r.x.s1 r.x.s2 r.x.s3 w
  have h2 := arr_eq8 r.y.n0 r.y.n1 r.y.n2 r.y.n3 r.y.n0 r.y.n1 r.y.n2 r.y.n3 r.y.s0 r.y.s1 r.y.s2 r.y.s3 r.y.s0 r.y.s1 r.y.s2 r.y.s3 w
  have h3 := arr_eq8 r.z.n0 r.z.n1 r.z.n2 r.z.n3 r.z.n0 r.z.n1 r.z.n2 r.z.n3 r.z.s0 r.z.s1 r.z.s2 r.z.s3 r.z.s0 r.z.s1 r.z.s2 r.z.s3 w
  rw [decide_eq_true (by simp)] at h1 h2 h3
  unfold eqT vRV
  go_simp
set_option maxHeartbeats 4000000 in
theorem eqV_diff (r s : Rv) (h : r ≠ s) (p q : Operand) (w : World) : (eqT .eql 28 p q (vRV r) (vRV s)).run Tryz.prog w = .ok (.bool false) w := by
  unfold eqT vRV
  obtain ⟨rx, ry, rz⟩ := r
  obtain ⟨sx, sy, sz⟩ := s
  simp only
  have h1 := fun a b : Rw => arr_eq8 a.n0 a.n1 a.n2 a.n3 b.n0 b.n1 b.n2 b.n3 a.s0 a.s1 a.s2 a.s3 b.s0 b.s1 b.s2 b.s3 w
  have same := fun a : Rw => h1 a a
  simp only [and_self, decide_true] at same
  by_cases hx : rx = sx
  · subst hx
    have hx := same rx
    by_cases hy : ry = sy
    · subst hy
      have hy := same ry
      have hz : rz ≠ sz := fun e => h (by rw [e])
      have ha := h1 rz sz
      rcases num_cases rz sz hz with hc | ⟨hc, hd⟩
      · rw [decide_eq_false hc] at ha
        clear h1 same hc hz h
        go_simp
      · rw [decide_eq_true hc] at ha
        clear h1 same hc hz h
        go_simp
        try exact hd
    · have ha := h1 ry sy
      rcases num_cases ry sy hy with hc | ⟨hc, hd⟩
      · rw [decide_eq_false hc] at ha
        clear h1 same hc hy h
        go_simp
      · rw [decide_eq_true hc] at ha
        clear h1 same hc hy h
        go_simp
        try exact hd
        try (intro a b; exact absurd b (hd a))
  · have ha := h1 rx sx
    rcases num_cases rx sx hx with hc | ⟨hc, hd⟩
    · rw [decide_eq_false hc] at ha
      clear h1 same hc hx h
      go_simp
    · rw [decide_eq_true hc] at ha
      clear h1 same hc hx h
      go_simp
      try exact hd
      try (intro a b; exact absurd b (hd a))
end Go.Proofs.YtegnalgjjmpcmaaGreatDoor
