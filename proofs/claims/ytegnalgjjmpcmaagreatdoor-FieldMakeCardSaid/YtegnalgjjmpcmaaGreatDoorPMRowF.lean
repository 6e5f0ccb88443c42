/- Arguments of the field's laws, opened and shut: numbers, rows of integers, pairs of machine integers. -/
import Derived.Test.YtegnalgjjmpcmaaGreatDoorPMRowA
import Derived.Test.YtegnalgjjmpcmaaGreatDoorPMI
namespace Go.Proofs.YtegnalgjjmpcmaaGreatDoor
open Go.ChangeShapes Go.WideShapes Go.ChangeAt Go.RowKit Go.Joins
set_option linter.unusedVariables false
set_option linter.unusedSimpArgs false

theorem cellsA4 : Tryz.prog.cellsOf 24 = 8 := by kernel_rfl
def dI {H : Type} (n : Bool) (s : ByteArray) : DataW H := .agg [.lit (.bool n), .lit (.string s.data.toList)]
def dR {H : Type} (r : Rw) : DataW H := .agg [.agg [dI r.n0 r.s0, dI r.n1 r.s1, dI r.n2 r.s2, dI r.n3 r.s3], dI r.n4 r.s4]
def mxR (r : Rw) : Prop := r.s0.size ≤ maxLen ∧ r.s1.size ≤ maxLen ∧ r.s2.size ≤ maxLen ∧ r.s3.size ≤ maxLen ∧ r.s4.size ≤ maxLen
set_option maxRecDepth 100000 in
theorem trod_Int {H : Type} {enc : TypeId × Value → H} {W : World} {bs : Nat} {sp : Nat → Bool} {held : Bool} {n : Nat} {c0 c1 : Value} {y : DataW H × List MemPlace} (h : DataW.trod enc Tryz.prog W bs sp held n 23 [c0, c1] = some y) :
    ∃ (b : Bool) (s : ByteArray), c0 = .bool b ∧ c1 = .string s ∧ y = (dI b s, []) ∧ s.size ≤ maxLen := by
  obtain ⟨y0, y1, m, hx, -, h0, h1⟩ := trod_struct2 Tryz.underlying23 h
  have g0 : DataW.trod enc Tryz.prog W bs sp held m 4 [c0] = some y0 := h0
  have g1 : DataW.trod enc Tryz.prog W bs sp held m 9 [c1] = some y1 := h1
  obtain ⟨b, e0, rfl⟩ := DataW.trod_bool Tryz.underlying4 g0
  obtain ⟨s, e1, rfl, hs⟩ := DataW.trod_string Tryz.underlying9 g1
  simp at e0 e1
  exact ⟨b, s, e0, e1, hx, hs⟩
set_option maxRecDepth 100000 in
theorem trod_Int_mk {H : Type} {enc : TypeId × Value → H} {W : World} {bs : Nat} {sp : Nat → Bool} {held : Bool} (n : Nat) (b : Bool) (s : ByteArray) (hs : s.size ≤ maxLen) :
    DataW.trod enc Tryz.prog W bs sp held (n + 2) 23 [.bool b, .string s] = some (dI b s, []) := by
  have h0 : DataW.trod enc Tryz.prog W bs sp held (n + 1) 4 [.bool b] = some (.lit (.bool b), []) := by simp [DataW.trod, Tryz.underlying4]
  have h1 : DataW.trod enc Tryz.prog W bs sp held (n + 1) 9 [.string s] = some (.lit (.string s.data.toList), []) := by simp [DataW.trod, Tryz.underlying9, hs]
  exact trod_struct2_mk (y0 := (.lit (.bool b), [])) (y1 := (.lit (.string s.data.toList), [])) Tryz.underlying23 (by rw [cellsInt]; rfl) h0 h1
theorem array8 {α : Type} {cs : Array α} (h : cs.size = 8) : ∃ c0 c1 c2 c3 c4 c5 c6 c7, cs = #[c0, c1, c2, c3, c4, c5, c6, c7] := by
  obtain ⟨l⟩ := cs
  match l, h with
  | [c0, c1, c2, c3, c4, c5, c6, c7], _ => exact ⟨c0, c1, c2, c3, c4, c5, c6, c7, rfl⟩
set_option maxRecDepth 100000 in
theorem okWide_arr' {W : World} {r : Reach} {b0 : Nat} {t e : TypeId} {n : Nat} {v : Value} (hs : Tryz.prog.underlying t = some (.array n e)) (h : Value.okWide Tryz.prog W r b0 t v) : ∃ xs : Array Value, v = .agg xs ∧ xs.size = Tryz.prog.cellsOf t := by
  simp only [Value.okWide, hs] at h
  obtain ⟨cs, h1, h2, _⟩ := h
  exact ⟨cs, h1, h2⟩
theorem list4 {α : Type} {xs : List α} (h : xs.length = 4) : ∃ a b c d, xs = [a, b, c, d] := by
  match xs, h with
  | [a, b, c, d], _ => exact ⟨a, b, c, d, rfl⟩
set_option maxRecDepth 100000 in
theorem trod_A4 {H : Type} {enc : TypeId × Value → H} {W : World} {bs : Nat} {sp : Nat → Bool} {held : Bool} {n : Nat} {c0 c1 c2 c3 c4 c5 c6 c7 : Value} {y : DataW H × List MemPlace} (h : DataW.trod enc Tryz.prog W bs sp held n 24 [c0, c1, c2, c3, c4, c5, c6, c7] = some y) :
    ∃ (n0 : Bool) (s0 : ByteArray) (n1 : Bool) (s1 : ByteArray) (n2 : Bool) (s2 : ByteArray) (n3 : Bool) (s3 : ByteArray), [c0, c1, c2, c3, c4, c5, c6, c7] = [.bool n0, .string s0, .bool n1, .string s1, .bool n2, .string s2, .bool n3, .string s3] ∧ y = (.agg [dI n0 s0, dI n1 s1, dI n2 s2, dI n3 s3], []) ∧ s0.size ≤ maxLen ∧ s1.size ≤ maxLen ∧ s2.size ≤ maxLen ∧ s3.size ≤ maxLen := by
  obtain ⟨xs, m, -, rfl, -, hl, hf⟩ := DataW.trod_array Tryz.underlying24 h
  obtain ⟨y0, y1, y2, y3, rfl⟩ := list4 hl
  have g0 : DataW.trod enc Tryz.prog W bs sp held m 23 [c0, c1] = some y0 := by have := hf 0 (by omega); rw [cellsInt] at this; exact this
  have g1 : DataW.trod enc Tryz.prog W bs sp held m 23 [c2, c3] = some y1 := by have := hf 1 (by omega); rw [cellsInt] at this; exact this
  have g2 : DataW.trod enc Tryz.prog W bs sp held m 23 [c4, c5] = some y2 := by have := hf 2 (by omega); rw [cellsInt] at this; exact this
  have g3 : DataW.trod enc Tryz.prog W bs sp held m 23 [c6, c7] = some y3 := by have := hf 3 (by omega); rw [cellsInt] at this; exact this
  obtain ⟨n0, s0, rfl, rfl, rfl, h0⟩ := trod_Int g0
  obtain ⟨n1, s1, rfl, rfl, rfl, h1⟩ := trod_Int g1
  obtain ⟨n2, s2, rfl, rfl, rfl, h2⟩ := trod_Int g2
  obtain ⟨n3, s3, rfl, rfl, rfl, h3⟩ := trod_Int g3
  exact ⟨n0, s0, n1, s1, n2, s2, n3, s3, rfl, rfl, h0, h1, h2, h3⟩
set_option maxRecDepth 100000 in
theorem trod_A4_mk {H : Type} {enc : TypeId × Value → H} {W : World} {bs : Nat} {sp : Nat → Bool} {held : Bool} (n : Nat) (n0 n1 n2 n3 : Bool) (s0 s1 s2 s3 : ByteArray) (h0 : s0.size ≤ maxLen) (h1 : s1.size ≤ maxLen) (h2 : s2.size ≤ maxLen) (h3 : s3.size ≤ maxLen) :
    DataW.trod enc Tryz.prog W bs sp held (n + 3) 24 [.bool n0, .string s0, .bool n1, .string s1, .bool n2, .string s2, .bool n3, .string s3] = some (.agg [dI n0 s0, dI n1 s1, dI n2 s2, dI n3 s3], []) := by
  have g0 := trod_Int_mk (enc := enc) (W := W) (bs := bs) (sp := sp) (held := held) n n0 s0 h0
  have g1 := trod_Int_mk (enc := enc) (W := W) (bs := bs) (sp := sp) (held := held) n n1 s1 h1
  have g2 := trod_Int_mk (enc := enc) (W := W) (bs := bs) (sp := sp) (held := held) n n2 s2 h2
  have g3 := trod_Int_mk (enc := enc) (W := W) (bs := bs) (sp := sp) (held := held) n n3 s3 h3
  rw [DataW.trod_step]
  unfold DataW.trodStep
  simp only [Tryz.underlying24, cellsA4, cellsInt]
  rw [show List.range 4 = [0, 1, 2, 3] from rfl]
  simp [g0, g1, g2, g3]
def zR : Rw := ⟨false, .empty, false, .empty, false, .empty, false, .empty, false, .empty⟩
def zeroNum : Value := .agg #[.bool false, .string .empty, .bool false, .string .empty, .bool false, .string .empty, .bool false, .string .empty, .bool false, .string .empty]
def zeroND {H : Type} : DataW H := .agg [.agg [zeroD, zeroD, zeroD, zeroD], zeroD]
def zeroA4 : Value := .agg #[.bool false, .string .empty, .bool false, .string .empty, .bool false, .string .empty, .bool false, .string .empty]
def zeroA4D {H : Type} : DataW H := .agg [zeroD, zeroD, zeroD, zeroD]
set_option maxRecDepth 100000 in
theorem open_A4 {H : Type} {enc : TypeId × Value → H} {W : World} {base bs : Nat} {sp : Nat → Bool} {held : Bool} {v : Value} {d : DataW H} {p : List MemPlace} (hv : Value.okWide Tryz.prog W .any base 24 v) (h : DataW.Trod enc Tryz.prog W bs sp held 24 v d p) :
    ∃ (n0 : Bool) (s0 : ByteArray) (n1 : Bool) (s1 : ByteArray) (n2 : Bool) (s2 : ByteArray) (n3 : Bool) (s3 : ByteArray), v = .agg #[.bool n0, .string s0, .bool n1, .string s1, .bool n2, .string s2, .bool n3, .string s3] ∧ d = .agg [dI n0 s0, dI n1 s1, dI n2 s2, dI n3 s3] ∧ p = [] ∧ s0.size ≤ maxLen ∧ s1.size ≤ maxLen ∧ s2.size ≤ maxLen ∧ s3.size ≤ maxLen := by
  obtain ⟨cs, rfl, hsz⟩ := okWide_arr' Tryz.underlying24 hv
  obtain ⟨c0, c1, c2, c3, c4, c5, c6, c7, rfl⟩ := array8 (hsz.trans cellsA4)
  obtain ⟨fuel, hf⟩ := h
  obtain ⟨n0, s0, n1, s1, n2, s2, n3, s3, e, hx, k0, k1, k2, k3⟩ := trod_A4 hf
  simp only [List.cons.injEq, and_true] at e
  obtain ⟨rfl, rfl, rfl, rfl, rfl, rfl, rfl, rfl⟩ := e
  simp only [Prod.mk.injEq] at hx
  exact ⟨n0, s0, n1, s1, n2, s2, n3, s3, rfl, hx.1, hx.2, k0, k1, k2, k3⟩
set_option maxRecDepth 100000 in
theorem shut_A4 {H : Type} {enc : TypeId × Value → H} {W : World} {base : Nat} {sp : Nat → Bool} {held : Bool} (n0 n1 n2 n3 : Bool) (s0 s1 s2 s3 : ByteArray) (h0 : s0.size ≤ maxLen) (h1 : s1.size ≤ maxLen) (h2 : s2.size ≤ maxLen) (h3 : s3.size ≤ maxLen) :
    DataW.Trod enc Tryz.prog W base sp held 24 (.agg #[.bool n0, .string s0, .bool n1, .string s1, .bool n2, .string s2, .bool n3, .string s3]) (.agg [dI n0 s0, dI n1 s1, dI n2 s2, dI n3 s3]) [] :=
  ⟨0 + 3, trod_A4_mk 0 n0 n1 n2 n3 s0 s1 s2 s3 h0 h1 h2 h3⟩
theorem cellsS64' : Tryz.prog.cellsOf 57 = 2 := by kernel_rfl
theorem cells64' : Tryz.prog.cellsOf 3 = 1 := by kernel_rfl
set_option maxRecDepth 100000 in
theorem open_P64 {H : Type} {enc : TypeId × Value → H} {W : World} {base bs : Nat} {sp : Nat → Bool} {held : Bool} {v : Value} {d : DataW H} {p : List MemPlace} (hv : Value.okWide Tryz.prog W .any base 57 v) (h : DataW.Trod enc Tryz.prog W bs sp held 57 v d p) :
    ∃ a b : Int, v = .agg #[.int .i64 a, .int .i64 b] ∧ d = .agg [.lit (.int .i64 a), .lit (.int .i64 b)] ∧ p = [] ∧ (Lit.int .i64 a).wf = true ∧ (Lit.int .i64 b).wf = true := by
  obtain ⟨cs, rfl, hsz⟩ := okWide_arr' Tryz.underlying57 hv
  obtain ⟨c0, c1, rfl⟩ := array2 (hsz.trans cellsS64')
  obtain ⟨fuel, hf⟩ := h
  obtain ⟨xs, m, -, hx, -, hl, hf⟩ := DataW.trod_array Tryz.underlying57 hf
  obtain ⟨y0, y1, rfl⟩ : ∃ a b, xs = [a, b] := by
    match xs, hl with
    | [a, b], _ => exact ⟨a, b, rfl⟩
  have g0 : DataW.trod enc Tryz.prog W bs sp held m 3 [c0] = some y0 := by have := hf 0 (by omega); rw [cells64'] at this; exact this
  have g1 : DataW.trod enc Tryz.prog W bs sp held m 3 [c1] = some y1 := by have := hf 1 (by omega); rw [cells64'] at this; exact this
  obtain ⟨a, e0, rfl, w0⟩ := DataW.trod_int Tryz.underlying3 g0
  obtain ⟨b, e1, rfl, w1⟩ := DataW.trod_int Tryz.underlying3 g1
  simp at e0 e1
  subst e0 e1
  simp only [Prod.mk.injEq] at hx
  exact ⟨a, b, rfl, hx.1, hx.2, w0, w1⟩
set_option maxRecDepth 100000 in
theorem shut_P64 {H : Type} {enc : TypeId × Value → H} {W : World} {base : Nat} {sp : Nat → Bool} {held : Bool} (a b : Int) (h0 : (Lit.int .i64 a).wf = true) (h1 : (Lit.int .i64 b).wf = true) :
    DataW.Trod enc Tryz.prog W base sp held 57 (.agg #[.int .i64 a, .int .i64 b]) (.agg [.lit (.int .i64 a), .lit (.int .i64 b)]) [] := by
  refine ⟨2, ?_⟩
  have g0 : DataW.trod enc Tryz.prog W base sp held 1 3 [.int .i64 a] = some (.lit (.int .i64 a), []) := by simp [DataW.trod, Tryz.underlying3, h0]
  have g1 : DataW.trod enc Tryz.prog W base sp held 1 3 [.int .i64 b] = some (.lit (.int .i64 b), []) := by simp [DataW.trod, Tryz.underlying3, h1]
  rw [DataW.trod_step]
  unfold DataW.trodStep
  simp only [Tryz.underlying57, cellsS64', cells64']
  rw [show List.range 2 = [0, 1] from rfl]
  simp [Value.cells, g0, g1]
end Go.Proofs.YtegnalgjjmpcmaaGreatDoor

