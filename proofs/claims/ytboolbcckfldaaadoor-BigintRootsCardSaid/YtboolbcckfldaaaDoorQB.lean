import Derived.Test.YtboolbcckfldaaaDoorMem
import Derived.Deep.Quiet
import Derived.BigQuiet
/-! A region that draws its order, whose operations only read and whose callees leave what stands below as it was: one walk in the order of the text. -/
namespace Go.Proofs.YtboolbcckfldaaaDoor
open Go.RowKit Go
set_option linter.unusedVariables false

section
variable {P : Program} {ops : Array Oper} {C : World → Prop} {Q : Act → Prop} {a : Act} {o : Oper} {rest : List Oper}
theorem qb_run (v : Value) (hw : Region.wanted o (yielded ops a.tmps) = true) (hy : ∀ w, C w → (execOp a.eval o).run P w = .ok (.value v) w) (h : wpQuiet P ops C Q rest (a.put o.dst v)) : wpQuiet P ops C Q (o :: rest) a :=
  BigFrame.wpQuiet_want hw fun K hK => ⟨v, fun w hC => by unfold Oper.quietAt; rw [hy w hC]; exact ⟨rfl, rfl⟩, hK _ h⟩
theorem qb_call (v : Value) (f : FuncId) (args : Array Value) (hw : Region.wanted o (yielded ops a.tmps) = true) (hf : ∀ w, (execOp a.eval o).run P w = .ok (.enter f args) w) (hy : ∀ w, C w → Calls P f args w (fun e w' => e = .returned v ∧ C w'))
    (h : wpQuiet P ops C Q rest (a.put o.dst v)) : wpQuiet P ops C Q (o :: rest) a :=
  BigFrame.wpQuiet_want hw fun K hK => ⟨v, fun w hC => by unfold Oper.quietAt; rw [hf w]; exact ⟨rfl, hy w hC⟩, hK _ h⟩
theorem qb_mv (v : Value) (x : Operand) (ho : (o.op = .move x ∨ o.op = .assign x)) (hw : Region.wanted o (yielded ops a.tmps) = true) (hv : a.eval x = v) (h : wpQuiet P ops C Q rest (a.put o.dst v)) : wpQuiet P ops C Q (o :: rest) a :=
  BigFrame.wpQuiet_want hw fun K hK => ho.elim (fun ho => BigFrame.quiet_move x ho (hK _ (by rw [hv]; exact h))) (fun ho => BigFrame.quiet_assign x ho (hK _ (by rw [hv]; exact h)))
theorem qb_skip (hw : Region.wanted o (yielded ops a.tmps) = false) (h : wpQuiet P ops C Q rest (a.put o.dst undef)) : wpQuiet P ops C Q (o :: rest) a :=
  BigFrame.wpQuiet_skip hw h
end

/-- of what stood in W nothing has turned -/
def CB (W w : World) : Prop := Below W.heap.size W w
theorem CB.refl (W : World) : CB W W := Below.refl _ _
theorem CB.step {W w w' : World} (h : CB W w) (hb : Below w.heap.size w w') : CB W w' := h.trans (hb.mono h.size)

theorem region_qb {P : Program} {id : Nat} {Q : Exit → Act → World → Prop} {a : Act} {W : World} {l : List Oper} (hm : P.follows .mixedOrders = true) (hB : Region.lexB .any l.toArray = true)
    (h : wpQuiet P l.toArray (CB W) (fun a' => ∀ w, CB W w → Q .normal a' w) l a) : (Code.region id l.toArray true).wp P Q a W :=
  wp_region_quiet (C := CB W) hm hB ⟨rfl, rfl, rfl, Nat.le_refl _, fun _ _ => rfl⟩ (by simpa using h)
end Go.Proofs.YtboolbcckfldaaaDoor
