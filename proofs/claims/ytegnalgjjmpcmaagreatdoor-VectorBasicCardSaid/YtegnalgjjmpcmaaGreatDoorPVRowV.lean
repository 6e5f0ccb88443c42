/- Arguments of the vectors' laws, opened and shut: vectors, rows of three machine integers. -/
import Derived.Test.YtegnalgjjmpcmaaGreatDoorPVRowF
import Derived.Test.YtegnalgjjmpcmaaGreatDoorPVEqV
namespace Go.Proofs.YtegnalgjjmpcmaaGreatDoor
open Go.ChangeShapes Go.WideShapes Go.ChangeAt Go.RowKit Go.Joins
set_option maxRecDepth 100000
set_option linter.unusedVariables false
set_option linter.unusedSimpArgs false
theorem cellsVec : Tryz.prog.cellsOf 28 = 30 := by kernel_rfl
def dRV {H : Type} (r : Rv) : DataW H := .agg [dR r.x, dR r.y, dR r.z]
def mxRV (r : Rv) : Prop := mxR r.x ∧ mxR r.y ∧ mxR r.z
theorem array30 {α : Type} {cs : Array α} (h : cs.size = 30) : ∃ c0 c1 c2 c3 c4 c5 c6 c7 c8 c9 c10 c11 c12 c13 c14 c15 c16 c17 c18 c19 c20 c21 c22 c23 c24 c25 c26 c27 c28 c29, cs = #[c0, c1, c2, c3, c4, c5, c6, c7, c8, c9, c10, c11, c12, c13, c14, c15, c16, c17, c18, c19, c20, c21, c22, c23, c24, c25, c26, c27, c28, c29] := by
  obtain ⟨l⟩ := cs
  match l, h with
  | [c0, c1, c2, c3, c4, c5, c6, c7, c8, c9, c10, c11, c12, c13, c14, c15, c16, c17, c18, c19, c20, c21, c22, c23, c24, c25, c26, c27, c28, c29], _ => exact ⟨c0, c1, c2, c3, c4, c5, c6, c7, c8, c9, c10, c11, c12, c13, c14, c15, c16, c17, c18, c19, c20, c21, c22, c23, c24, c25, c26, c27, c28, c29, rfl⟩
theorem trod_Num {H : Type} {enc : TypeId × Value → H} {W : World} {bs : Nat} {sp : Nat → Bool} {held : Bool} {n : Nat} {c0 c1 c2 c3 c4 c5 c6 c7 c8 c9 : Value} {y : DataW H × List MemPlace} (h : DataW.trod enc Tryz.prog W bs sp held n 26 [c0, c1, c2, c3, c4, c5, c6, c7, c8, c9] = some y) :
    ∃ r : Rw, [c0, c1, c2, c3, c4, c5, c6, c7, c8, c9] = [.bool r.n0, .string r.s0, .bool r.n1, .string r.s1, .bool r.n2, .string r.s2, .bool r.n3, .string r.s3, .bool r.n4, .string r.s4] ∧ y = (dR r, []) ∧ mxR r := by
  obtain ⟨y0, y1, m, hx, -, h0, h1⟩ := trod_struct2 Tryz.underlying26 h
  have g0 : DataW.trod enc Tryz.prog W bs sp held m 24 [c0, c1, c2, c3, c4, c5, c6, c7] = some y0 := by rw [cellsA4] at h0; exact h0
  have g1 : DataW.trod enc Tryz.prog W bs sp held m 23 [c8, c9] = some y1 := by rw [cellsInt] at h1; exact h1
  obtain ⟨n0, s0, n1, s1, n2, s2, n3, s3, e, rfl, k0, k1, k2, k3⟩ := trod_A4 g0
  obtain ⟨n4, s4, rfl, rfl, rfl, k4⟩ := trod_Int g1
  simp only [List.cons.injEq, and_true] at e
  obtain ⟨rfl, rfl, rfl, rfl, rfl, rfl, rfl, rfl⟩ := e
  exact ⟨⟨n0, s0, n1, s1, n2, s2, n3, s3, n4, s4⟩, rfl, hx, k0, k1, k2, k3, k4⟩
theorem trod_Num_mk {H : Type} {enc : TypeId × Value → H} {W : World} {bs : Nat} {sp : Nat → Bool} {held : Bool} (n : Nat) (r : Rw) (h : mxR r) :
    DataW.trod enc Tryz.prog W bs sp held (n + 4) 26 [.bool r.n0, .string r.s0, .bool r.n1, .string r.s1, .bool r.n2, .string r.s2, .bool r.n3, .string r.s3, .bool r.n4, .string r.s4] = some (dR r, []) := by
  obtain ⟨h0, h1, h2, h3, h4⟩ := h
  have g0 := trod_A4_mk (enc := enc) (W := W) (bs := bs) (sp := sp) (held := held) n r.n0 r.n1 r.n2 r.n3 r.s0 r.s1 r.s2 r.s3 h0 h1 h2 h3
  have g1 := trod_Int_mk (enc := enc) (W := W) (bs := bs) (sp := sp) (held := held) (n + 1) r.n4 r.s4 h4
  exact trod_struct2_mk (enc := enc) (w := W) (base := bs) (spare := sp) (held := held) (n := n + 3) (cs := [.bool r.n0, .string r.s0, .bool r.n1, .string r.s1, .bool r.n2, .string r.s2, .bool r.n3, .string r.s3, .bool r.n4, .string r.s4]) Tryz.underlying26 (by rw [cellsNum]; rfl)
    (by rw [cellsA4]; exact g0) (by rw [cellsInt]; exact g1)
theorem trod_struct3 {H : Type} {enc : TypeId × Value → H} {P : Program} {W : World} {bs : Nat} {sp : Nat → Bool} {held : Bool} {t : TypeId} {f0 f1 f2 : Field} {fuel : Nat} {cs : List Value} {x : DataW H × List MemPlace} (ht : P.underlying t = some (.struct #[f0, f1, f2])) (h : DataW.trod enc P W bs sp held fuel t cs = some x) :
    ∃ y0 y1 y2 n, x = (.agg [y0.1, y1.1, y2.1], y0.2 ++ (y1.2 ++ y2.2)) ∧ cs.length = P.cellsOf t ∧ DataW.trod enc P W bs sp held n f0.type ((cs.drop f0.offset).take (P.cellsOf f0.type)) = some y0 ∧
      DataW.trod enc P W bs sp held n f1.type ((cs.drop f1.offset).take (P.cellsOf f1.type)) = some y1 ∧ DataW.trod enc P W bs sp held n f2.type ((cs.drop f2.offset).take (P.cellsOf f2.type)) = some y2 := by
  obtain ⟨xs, n, _, rfl, hl, hlen, hf⟩ := DataW.trod_struct ht h
  match xs, hlen with
  | [y0, y1, y2], _ => exact ⟨y0, y1, y2, n, by simp, hl, by simpa using hf 0 f0 rfl, by simpa using hf 1 f1 rfl, by simpa using hf 2 f2 rfl⟩
theorem trod_struct3_mk {H : Type} {enc : TypeId × Value → H} {P : Program} {W : World} {bs : Nat} {sp : Nat → Bool} {held : Bool} {t : TypeId} {f0 f1 f2 : Field} {n : Nat} {cs : List Value} {y0 y1 y2 : DataW H × List MemPlace} (ht : P.underlying t = some (.struct #[f0, f1, f2])) (hl : cs.length = P.cellsOf t)
    (h0 : DataW.trod enc P W bs sp held n f0.type ((cs.drop f0.offset).take (P.cellsOf f0.type)) = some y0)
    (h1 : DataW.trod enc P W bs sp held n f1.type ((cs.drop f1.offset).take (P.cellsOf f1.type)) = some y1)
    (h2 : DataW.trod enc P W bs sp held n f2.type ((cs.drop f2.offset).take (P.cellsOf f2.type)) = some y2) : DataW.trod enc P W bs sp held (n + 1) t cs = some (.agg [y0.1, y1.1, y2.1], y0.2 ++ (y1.2 ++ y2.2)) := by
  have := trod_struct_mk (enc := enc) (w := W) (base := bs) (spare := sp) (held := held) (n := n) (xs := [y0, y1, y2]) ht hl (by simp [h0, h1, h2])
  simpa using this
theorem open_Vec {H : Type} {enc : TypeId × Value → H} {W : World} {base bs : Nat} {sp : Nat → Bool} {held : Bool} {v : Value} {d : DataW H} {p : List MemPlace} (hv : Value.okWide Tryz.prog W .any base 28 v) (h : DataW.Trod enc Tryz.prog W bs sp held 28 v d p) :
    ∃ r : Rv, v = vRV r ∧ d = dRV r ∧ p = [] ∧ mxRV r := by
  obtain ⟨cs, rfl, hsz⟩ := okWide_struct Tryz.underlying28 hv
  obtain ⟨c0, c1, c2, c3, c4, c5, c6, c7, c8, c9, c10, c11, c12, c13, c14, c15, c16, c17, c18, c19, c20, c21, c22, c23, c24, c25, c26, c27, c28, c29, rfl⟩ := array30 (hsz.trans cellsVec)
  obtain ⟨fuel, hf⟩ := h
  obtain ⟨y0, y1, y2, m, hx, -, h0, h1, h2⟩ := trod_struct3 Tryz.underlying28 hf
  have g0 : DataW.trod enc Tryz.prog W bs sp held m 26 [c0, c1, c2, c3, c4, c5, c6, c7, c8, c9] = some y0 := by rw [cellsNum] at h0; exact h0
  have g1 : DataW.trod enc Tryz.prog W bs sp held m 26 [c10, c11, c12, c13, c14, c15, c16, c17, c18, c19] = some y1 := by rw [cellsNum] at h1; exact h1
  have g2 : DataW.trod enc Tryz.prog W bs sp held m 26 [c20, c21, c22, c23, c24, c25, c26, c27, c28, c29] = some y2 := by rw [cellsNum] at h2; exact h2
  obtain ⟨r0, e0, rfl, k0⟩ := trod_Num g0
  obtain ⟨r1, e1, rfl, k1⟩ := trod_Num g1
  obtain ⟨r2, e2, rfl, k2⟩ := trod_Num g2
  simp only [List.cons.injEq, and_true] at e0 e1 e2
  obtain ⟨rfl, rfl, rfl, rfl, rfl, rfl, rfl, rfl, rfl, rfl⟩ := e0
  obtain ⟨rfl, rfl, rfl, rfl, rfl, rfl, rfl, rfl, rfl, rfl⟩ := e1
  obtain ⟨rfl, rfl, rfl, rfl, rfl, rfl, rfl, rfl, rfl, rfl⟩ := e2
  simp only [Prod.mk.injEq] at hx
  exact ⟨⟨r0, r1, r2⟩, rfl, hx.1, hx.2, k0, k1, k2⟩
theorem shut_Vec {H : Type} {enc : TypeId × Value → H} {W : World} {base : Nat} {sp : Nat → Bool} {held : Bool} (r : Rv) (h : mxRV r) : DataW.Trod enc Tryz.prog W base sp held 28 (vRV r) (dRV r) [] := by
  obtain ⟨h0, h1, h2⟩ := h
  have g0 := trod_Num_mk (enc := enc) (W := W) (bs := base) (sp := sp) (held := held) 0 r.x h0
  have g1 := trod_Num_mk (enc := enc) (W := W) (bs := base) (sp := sp) (held := held) 0 r.y h1
  have g2 := trod_Num_mk (enc := enc) (W := W) (bs := base) (sp := sp) (held := held) 0 r.z h2
  refine ⟨0 + 4 + 1, ?_⟩
  have := trod_struct3_mk (enc := enc) (W := W) (bs := base) (sp := sp) (held := held) (n := 0 + 4) (cs := [.bool r.x.n0, .string r.x.s0, .bool r.x.n1, .string r.x.s1, .bool r.x.n2, .string r.x.s2, .bool r.x.n3, .string r.x.s3, .bool r.x.n4, .string r.x.s4, .bool r.y.n0, .string r.y.s0, .bool r.y.n1, .string r.y.s1, .bool r.y.n2, .string r.y.s2, .bool r.y.n3, .string r.y.s3, .bool r.y.n4, .string r.y.s4, .bool r.z.n0, .string r.z.s0, .bool r.z.n1, .string r.z.s1, .bool r.z.n2, .string r.z.s2, .bool r.z.n3, .string r.z.s3, .bool r.z.n4, .string r.z.s4]) Tryz.underlying28 (by rw [cellsVec]; rfl)
    (by rw [cellsNum]; exact g0) (by rw [cellsNum]; exact g1) (by rw [cellsNum]; exact g2)
  exact this
def zeroVec : Value := .agg #[.bool false, .string .empty, .bool false, .string .empty, .bool false, .string .empty, .bool false, .string .empty, .bool false, .string .empty, .bool false, .string .empty, .bool false, .string .empty, .bool false, .string .empty, .bool false, .string .empty, .bool false, .string .empty, .bool false, .string .empty, .bool false, .string .empty, .bool false, .string .empty, .bool false, .string .empty, .bool false, .string .empty]
def zeroVD {H : Type} : DataW H := .agg [zeroND, zeroND, zeroND]
theorem cellsP3' : Tryz.prog.cellsOf 45 = 3 := by kernel_rfl
theorem cells64'' : Tryz.prog.cellsOf 3 = 1 := by kernel_rfl
theorem array3 {α : Type} {cs : Array α} (h : cs.size = 3) : ∃ a b c, cs = #[a, b, c] := by
  obtain ⟨l⟩ := cs
  match l, h with
  | [a, b, c], _ => exact ⟨a, b, c, rfl⟩
theorem open_P3 {H : Type} {enc : TypeId × Value → H} {W : World} {base bs : Nat} {sp : Nat → Bool} {held : Bool} {v : Value} {d : DataW H} {p : List MemPlace} (hv : Value.okWide Tryz.prog W .any base 45 v) (h : DataW.Trod enc Tryz.prog W bs sp held 45 v d p) :
    ∃ a b c : Int, v = .agg #[.int .i64 a, .int .i64 b, .int .i64 c] ∧ d = .agg [.lit (.int .i64 a), .lit (.int .i64 b), .lit (.int .i64 c)] ∧ p = [] ∧ (Lit.int .i64 a).wf = true ∧ (Lit.int .i64 b).wf = true ∧ (Lit.int .i64 c).wf = true := by
  obtain ⟨cs, rfl, hsz⟩ := okWide_arr' Tryz.underlying45 hv
  obtain ⟨c0, c1, c2, rfl⟩ := array3 (hsz.trans cellsP3')
  obtain ⟨fuel, hf⟩ := h
  obtain ⟨xs, m, -, hx, -, hl, hf⟩ := DataW.trod_array Tryz.underlying45 hf
  obtain ⟨y0, y1, y2, rfl⟩ : ∃ a b c, xs = [a, b, c] := by
    match xs, hl with
    | [a, b, c], _ => exact ⟨a, b, c, rfl⟩
  have g0 : DataW.trod enc Tryz.prog W bs sp held m 3 [c0] = some y0 := by have := hf 0 (by omega); rw [cells64''] at this; exact this
  have g1 : DataW.trod enc Tryz.prog W bs sp held m 3 [c1] = some y1 := by have := hf 1 (by omega); rw [cells64''] at this; exact this
  have g2 : DataW.trod enc Tryz.prog W bs sp held m 3 [c2] = some y2 := by have := hf 2 (by omega); rw [cells64''] at this; exact this
  obtain ⟨a, e0, rfl, w0⟩ := DataW.trod_int Tryz.underlying3 g0
  obtain ⟨b, e1, rfl, w1⟩ := DataW.trod_int Tryz.underlying3 g1
  obtain ⟨c, e2, rfl, w2⟩ := DataW.trod_int Tryz.underlying3 g2
  simp at e0 e1 e2
  subst e0 e1 e2
  simp only [Prod.mk.injEq] at hx
  exact ⟨a, b, c, rfl, hx.1, hx.2, w0, w1, w2⟩
theorem shut_P3 {H : Type} {enc : TypeId × Value → H} {W : World} {base : Nat} {sp : Nat → Bool} {held : Bool} (a b c : Int) (h0 : (Lit.int .i64 a).wf = true) (h1 : (Lit.int .i64 b).wf = true) (h2 : (Lit.int .i64 c).wf = true) :
    DataW.Trod enc Tryz.prog W base sp held 45 (.agg #[.int .i64 a, .int .i64 b, .int .i64 c]) (.agg [.lit (.int .i64 a), .lit (.int .i64 b), .lit (.int .i64 c)]) [] := by
  refine ⟨2, ?_⟩
  have g0 : DataW.trod enc Tryz.prog W base sp held 1 3 [.int .i64 a] = some (.lit (.int .i64 a), []) := by simp [DataW.trod, Tryz.underlying3, h0]
  have g1 : DataW.trod enc Tryz.prog W base sp held 1 3 [.int .i64 b] = some (.lit (.int .i64 b), []) := by simp [DataW.trod, Tryz.underlying3, h1]
  have g2 : DataW.trod enc Tryz.prog W base sp held 1 3 [.int .i64 c] = some (.lit (.int .i64 c), []) := by simp [DataW.trod, Tryz.underlying3, h2]
  rw [DataW.trod_step]
  unfold DataW.trodStep
  simp only [Tryz.underlying45, cellsP3', cells64'']
  rw [show List.range 3 = [0, 1, 2] from rfl]
  simp [Value.cells, g0, g1, g2]
end Go.Proofs.YtegnalgjjmpcmaaGreatDoor
