import Derived.Test.YtboolbcckfldaaaDoorWalkL
namespace Go.Proofs.YtboolbcckfldaaaDoor
open Go.RowKit
set_option linter.unusedVariables false

/-- a block of cells that is known whole -/
def Ob (w : World) (b : Nat) (t : TypeId) (cs : Array Value) : Prop := w.heap[b]? = some (.cells cs t (0, 0))
theorem Ob.new (w : World) (t : TypeId) (cs : Array Value) : Ob (w.alloc (.cells cs t)) w.heap.size t cs := by
  exact heap_alloc_new w _
theorem Ob.lt {w : World} {b : Nat} {t : TypeId} {cs : Array Value} (h : Ob w b t cs) : b < w.heap.size := lt_of_block h
theorem Ob.below {B : Nat} {w w' : World} {b : Nat} {t : TypeId} {cs : Array Value} (h : Ob w b t cs) (hb : Below B w w') (hB : b < B) : Ob w' b t cs := by
  unfold Ob at *; rw [hb.block b hB]; exact h
theorem Ob.alloc {w : World} {b : Nat} {t : TypeId} {cs : Array Value} (h : Ob w b t cs) (o : Obj) : Ob (w.alloc o) b t cs :=
  h.below ((Below.refl _ _).alloc (Nat.le_refl _) o) h.lt
theorem Ob.cell {w : World} {b : Nat} {t : TypeId} {cs : Array Value} (h : Ob w b t cs) (i : Nat) {v : Value} (hv : cs[i]? = some v) : w.cell? ⟨b, i, none⟩ = some v := by
  unfold Ob at h; simp [World.cell?, h, hv]
theorem Ob.cells1 {w : World} {b : Nat} {t : TypeId} {a0 : Value} (h : Ob w b t #[a0]) : w.cell? ⟨b, 0, none⟩ = some a0 := h.cell 0 rfl
theorem Ob.cells2 {w : World} {b : Nat} {t : TypeId} {a0 a1 : Value} (h : Ob w b t #[a0, a1]) : w.cell? ⟨b, 0, none⟩ = some a0 ∧ w.cell? ⟨b, 1, none⟩ = some a1 := ⟨h.cell 0 rfl, h.cell 1 rfl⟩
theorem below_set {B : Nat} {a w : World} (h : Below B a w) {b : Nat} (hb : B ≤ b) (i : Nat) (v : Value) : Below B a (w.setCell ⟨b, i, none⟩ v) := h.setCell hb v
theorem Ob.free {w : World} {b : Nat} {t : TypeId} {cs : Array Value} (h : Ob w b t cs) (i : Nat) : w.frozen? ⟨b, i, none⟩ = false := by
  unfold Ob at h; simp [World.frozen?, h]
theorem Ob.setCell {w : World} {b : Nat} {t : TypeId} {cs : Array Value} (h : Ob w b t cs) (i : Nat) (u : Value) : Ob (w.setCell ⟨b, i, none⟩ u) b t (cs.setIfInBounds i u) := cells_set h i u
theorem Ob.far {w : World} {b : Nat} {t : TypeId} {cs : Array Value} (h : Ob w b t cs) {c i : Nat} (hp : b ≠ c) (v : Value) : Ob (w.setCell ⟨c, i, none⟩ v) b t cs := by
  unfold Ob at *; rw [Below.heap_setCell _ _ _ _ hp]; exact h
theorem Ob.set1 {w : World} {b : Nat} {t : TypeId} {a0 : Value} (h : Ob w b t #[a0]) (u0 : Value) : Ob (w.setCell ⟨b, 0, none⟩ u0) b t #[u0] := h.setCell 0 u0
theorem Ob.set2 {w : World} {b : Nat} {t : TypeId} {a0 a1 : Value} (h : Ob w b t #[a0, a1]) (u0 u1 : Value) : Ob ((w.setCell ⟨b, 0, none⟩ u0).setCell ⟨b, 1, none⟩ u1) b t #[u0, u1] := (h.setCell 0 u0).setCell 1 u1
theorem Ob.far1 {w : World} {b : Nat} {t : TypeId} {cs : Array Value} (h : Ob w b t cs) {c : Nat} (hp : b ≠ c) (u0 : Value) : Ob (w.setCell ⟨c, 0, none⟩ u0) b t cs := h.far hp u0
theorem Ob.far2 {w : World} {b : Nat} {t : TypeId} {cs : Array Value} (h : Ob w b t cs) {c : Nat} (hp : b ≠ c) (u0 u1 : Value) : Ob ((w.setCell ⟨c, 0, none⟩ u0).setCell ⟨c, 1, none⟩ u1) b t cs := (h.far hp u0).far hp u1
end Go.Proofs.YtboolbcckfldaaaDoor
