import Derived.Test.YtboolbcckfldaaaDoorMem
import Derived.StillTail
import Derived.OrdersHeld
import Derived.Deep.RegionHeld3
import Derived.Deep.Quiet
import Derived.BigQuiet
/-! A region that draws its order, with loads ahead of calls and stores at its end: the operations are walked in ONE order of the prover's choice. -/
namespace Go.Proofs.YtboolbcckfldaaaDoor
open Go.RowKit Go
set_option linter.unusedVariables false
set_option linter.unusedSimpArgs false

section
variable {P : Program} {ops : Array Oper} {Q : Exit → Act → World → Prop} {md : Region.Mode} {S : World → Prop}

/-- the head's operations, any order, S behind each; then L -/
def wpFore (P : Program) (md : Region.Mode) (ops : Array Oper) (Q : Exit → Act → World → Prop) (S : World → Prop) (n : Nat) (L : Array Bool → Act → World → Prop) : Nat → Array Bool → Act → World → Prop
  | 0, d, a, w => L d a w
  | f + 1, d, a, w => Region.ready md ops d ≠ [] ∧ ∀ i, i ∈ Region.ready md ops d → i < n ∧ wpOp P ops Q i (fun a' w' => S w' ∧ wpFore P md ops Q S n L f (d.setIfInBounds i true) a' w') a w

theorem wpFore.any {n g : Nat} {L : Array Bool → Act → World → Prop} (hL : ∀ d a w, L d a w → wpAny P md ops Q g d a w) :
    ∀ (f : Nat) (d : Array Bool) (a : Act) (w : World), wpFore P md ops Q S n L f d a w → wpAny P md ops Q (f + g) d a w := by
  intro f
  induction f with
  | zero => intro d a w h; rw [Nat.zero_add]; exact hL _ _ _ h
  | succ f ih =>
    intro d a w h
    have e : f + 1 + g = (f + g) + 1 := by omega
    rw [e]
    exact ⟨fun h0 => absurd h0 h.1, fun i hi => wpOp_mono (fun a' w' h' => ih _ _ _ h'.2) (h.2 i hi).2⟩

theorem wpFore.early {n i : Nat} {o : Oper} {v : Value} {L : Array Bool → Act → World → Prop} (hi : ops[i]? = some o) (hsel : Region.noSelect ops = true)
    (hs : Region.sinkB md ops n = true) (hc : Region.chainB md ops n = true) (hn : n < ops.size) (hin : i < n)
    (hQ : ∀ c a w, Q (.panic c) (a.put o.dst v) w → Q (.panic c) a w)
    (hL : ∀ d a w, L d a w → ∀ j, j ∈ Region.ready md ops d → n ≤ j) :
    ∀ (f : Nat) (d : Array Bool) (a : Act) (w : World), HeadInv md ops n d →
      (∀ j oj, ops[j]? = some oj → j ≠ i → d.getD j true = false → (∀ e ∈ oj.after, Region.binds md e = true → e.on ≠ i) → o.apart ops oj = true) →
      i ∈ Region.ready md ops d → YieldsIf P ops S o v a → S w →
      wpFore P md ops Q S n L f (d.setIfInBounds i true) (a.put o.dst v) w → wpFore P md ops Q S n L (f + 1) d a w := by
  intro f
  induction f with
  | zero =>
    intro d a w inv _ hr hy hS H
    refine ⟨fun h => (by rw [h] at hr; cases hr), fun j hj => ?_⟩
    have hjn : j < n := by
      rcases Nat.lt_or_ge j n with h | h
      · exact h
      · exact absurd hj (tail_waits hs hc hn inv _ i rfl hin (mem_ready.1 hr).1 j h)
    by_cases hji : j = i
    · rw [hji] at hjn ⊢; exact ⟨hjn, hy.wpOp hi hS ⟨hS, H⟩⟩
    · have := hL _ _ _ H j (ready_mono hj hji); omega
  | succ f ih =>
    intro d a w inv hfree hr hy hS H
    have hun := (mem_ready.1 hr).1
    refine ⟨fun h => (by rw [h] at hr; cases hr), fun j hj => ?_⟩
    have hjn : j < n := by
      rcases Nat.lt_or_ge j n with h | h
      · exact h
      · exact absurd hj (tail_waits hs hc hn inv _ i rfl hin hun j h)
    refine ⟨hjn, ?_⟩
    by_cases hji : j = i
    · rw [hji]; exact hy.wpOp hi hS ⟨hS, H⟩
    · obtain ⟨hjun, oj, hoj, hall⟩ := mem_ready.1 hj
      have hno : ∀ e ∈ oj.after, Region.binds md e = true → e.on ≠ i := fun e he hb heq => by
        have := hall e he hb
        rw [heq, getD_both hun] at this
        cases this
      have h2 := wpOp_putIf hoj (hfree j oj hoj hji hjun hno) (fun cs b => Region.noSelect_spec hsel i o cs b hi) (fun cs b => Region.noSelect_spec hsel j oj cs b hoj) hQ hy (H.2 j (ready_mono hj hji)).2
      refine wpOp_mono (fun a' w' h3 => ⟨h3.2.1, ?_⟩) h2
      refine ih (d.setIfInBounds j true) a' w' (inv.set hj hjn) (fun k ok hk hki hkun hkno => hfree k ok hk hki ?_ hkno) (ready_mono hr (Ne.symm hji)) h3.1 h3.2.1 ?_
      · by_cases hjk : j = k
        · rw [← hjk]; exact hjun
        · rwa [getD_set_ne true hjk] at hkun
      · rw [Array.setIfInBounds_comm _ _ hji]; exact h3.2.2

/-- the prover's order: (i, true) is looked at ahead of its turn, (i, false) is carried out -/
def wpBy (P : Program) (ops : Array Oper) (Q : Exit → Act → World → Prop) (S : World → Prop) (K : Act → World → Prop) : List (Nat × Bool) → Act → World → Prop
  | [], a, w => K a w
  | (i, true) :: l, a, w => ∃ o v, ops[i]? = some o ∧ YieldsIf P ops S o v a ∧ wpBy P ops Q S K l (a.put o.dst v) w
  | (i, false) :: l, a, w => wpOp P ops Q i (fun a' w' => S w' ∧ wpBy P ops Q S K l a' w') a w

def byB (md : Region.Mode) (ops : Array Oper) (n : Nat) : List (Nat × Bool) → Array Bool → Bool
  | [], d => Region.seqB md ops (ops.size - n) n d
  | (i, b) :: l, d => decide (i < n) && (Region.ready md ops d).contains i && (if b then Region.free md ops d i else decide (Region.ready md ops d = [i])) && byB md ops n l (d.setIfInBounds i true)

def byOk (md : Region.Mode) (ops : Array Oper) (n : Nat) (l : List (Nat × Bool)) : Bool :=
  Region.noSelect ops && decide (n < ops.size) && Region.sinkB md ops n && Region.chainB md ops n && decide (l.length = n) && byB md ops n l (Array.replicate ops.size false)

theorem wpBy.fore {n : Nat} {K : Act → World → Prop} (hsel : Region.noSelect ops = true)
    (hs : Region.sinkB md ops n = true) (hc : Region.chainB md ops n = true) (hn : n < ops.size)
    (hQ : ∀ c a d v w, Q (.panic c) (Act.put a d v) w → Q (.panic c) a w) :
    ∀ (l : List (Nat × Bool)) (d : Array Bool) (a : Act) (w : World), HeadInv md ops n d → byB md ops n l d = true → S w → wpBy P ops Q S K l a w →
      wpFore P md ops Q S n (fun d' a' w' => Region.seqB md ops (ops.size - n) n d' = true ∧ K a' w') l.length d a w := by
  intro l
  induction l with
  | nil => intro d a w _ hB _ h; exact ⟨hB, h⟩
  | cons x l ih =>
    obtain ⟨i, b⟩ := x
    intro d a w inv hB hS h
    simp only [byB, Bool.and_eq_true, decide_eq_true_eq] at hB
    obtain ⟨⟨⟨hin, hr⟩, hf⟩, hB'⟩ := hB
    have hr' : i ∈ Region.ready md ops d := by simpa using hr
    cases b with
    | true =>
      obtain ⟨o, v, ho, hy, hK⟩ := h
      simp only [if_true] at hf
      exact wpFore.early ho hsel hs hc hn hin (fun c a w => hQ c a _ v w) (fun d' a' w' hL => seqB_ready hL.1) l.length d a w inv (Region.free_spec ho hf) hr' hy hS (ih _ _ _ (inv.set hr' hin) hB' hS hK)
    | false =>
      simp only [Bool.false_eq_true, if_false, decide_eq_true_eq] at hf
      refine ⟨fun h0 => (by rw [h0] at hr'; cases hr'), fun j hj => ?_⟩
      rw [hf] at hj
      have hj' : j = i := by simpa using hj
      subst hj'
      exact ⟨hin, wpOp_mono (fun a' w' h' => ⟨h'.1, ih _ _ _ (inv.set hr' hin) hB' h'.1 h'.2⟩) h⟩

/-- the law: the head in the prover's order, the rest in its own -/
theorem region_by {id : Nat} {a : Act} {w : World} {ol : List Oper} (S : World → Prop) (n : Nat) (l : List (Nat × Bool)) (hm : P.follows .mixedOrders = true) (hB : byOk .any ol.toArray n l = true)
    (hS : S w.drew)
    (h : wpBy P ol.toArray (NoPanic Q) S (fun a' w' => wpList P ol.toArray (NoPanic Q) (ol.drop n) a' w') l a w.drew) : (Code.region id ol.toArray true).wp P Q a w := by
  simp only [byOk, Bool.and_eq_true, decide_eq_true_eq] at hB
  obtain ⟨⟨⟨⟨⟨hsel, hn⟩, hs⟩, hc⟩, hl⟩, hB⟩ := hB
  have inv0 : HeadInv .any ol.toArray n (Array.replicate ol.toArray.size false) :=
    ⟨by simp, fun j oj _ hl => (by rw [getD_replicate_false] at hl; cases hl), fun t _ ht => getD_in (by simpa using ht) (getD_replicate_false _ _)⟩
  refine wp_region_noPanic (wp_region_any hm ?_)
  have hdl : (ol.drop n).length = ol.toArray.size - n := by simp
  have H := wpFore.any (g := ol.toArray.size - n) (fun d' a' w' hL => by
    have := wpAny_of_seq (md := .any) (ol.drop n) n d' a' w' (fun j => by simp [List.getElem?_drop]) (by rw [hdl]; exact hL.1) hL.2
    rwa [hdl] at this) _ _ _ _ (wpBy.fore hsel hs hc hn (fun _ _ _ _ _ h => h) l _ a w.drew inv0 hB hS h)
  rw [hl] at H
  have e : n + (ol.toArray.size - n) = ol.toArray.size := by omega
  rw [e] at H
  exact H

theorem wpBy.look {K : Act → World → Prop} {i : Nat} {l : List (Nat × Bool)} {a : Act} {w : World} (o : Oper) (v : Value) (ho : ops[i]? = some o)
    (hw : Region.wanted o (yielded ops a.tmps) = true) (hy : ∀ w, S w → (execOp a.eval o).run P w = .ok (.value v) w) (h : wpBy P ops Q S K l (a.put o.dst v) w) : wpBy P ops Q S K ((i, true) :: l) a w :=
  ⟨o, v, ho, .inl ⟨hw, hy⟩, h⟩
theorem wpBy.do {K : Act → World → Prop} {i : Nat} {l : List (Nat × Bool)} {a : Act} {w : World} (o : Oper) (ho : ops[i]? = some o)
    (h : ∀ K' : Act → World → Prop, Shut (∀ a w, S w → wpBy P ops Q S K l a w → K' a w) → if Region.wanted o (yielded ops a.tmps) = true then Oper.wp P o a w K' Q else K' (a.put o.dst undef) w) : wpBy P ops Q S K ((i, false) :: l) a w :=
  wpOp_step ho (fun K' hK => h K' (fun a w hS hW => hK a w ⟨hS, hW⟩))
end
end Go.Proofs.YtboolbcckfldaaaDoor

/-! A region that draws its order, whose operations only read and whose callees leave what stands below as it was: one walk in the order of the text. -/
namespace Go.Proofs.YtboolbcckfldaaaDoor
open Go.RowKit Go
set_option linter.unusedVariables false

section
variable {P : Program} {ops : Array Oper} {C : World → Prop} {Q : Act → Prop} {a : Act} {o : Oper} {rest : List Oper}
theorem qb_run (v : Value) (hw : Region.wanted o (yielded ops a.tmps) = true) (hy : ∀ w, C w → (execOp a.eval o).run P w = .ok (.value v) w) (h : wpQuiet P ops C Q rest (a.put o.dst v)) : wpQuiet P ops C Q (o :: rest) a :=
  BigFrame.wpQuiet_want hw fun K hK => ⟨v, fun w hC => by unfold Oper.quietAt; rw [hy w hC]; exact ⟨rfl, rfl⟩, hK _ h⟩
theorem qb_call (v : Value) (f : FuncId) (args : Array Value) (hw : Region.wanted o (yielded ops a.tmps) = true) (hf : ∀ w, (execOp a.eval o).run P w = .ok (.enter f args) w) (hy : ∀ w, C w → Calls P f args w (fun e w' => e = .returned v ∧ C w'))
    (h : wpQuiet P ops C Q rest (a.put o.dst v)) : wpQuiet P ops C Q (o :: rest) a :=
  BigFrame.wpQuiet_want hw fun K hK => ⟨v, fun w hC => by unfold Oper.quietAt; rw [hf w]; exact ⟨rfl, hy w hC⟩, hK _ h⟩
theorem qb_mv (v : Value) (x : Operand) (ho : (o.op = .move x ∨ o.op = .assign x)) (hw : Region.wanted o (yielded ops a.tmps) = true) (hv : a.eval x = v) (h : wpQuiet P ops C Q rest (a.put o.dst v)) : wpQuiet P ops C Q (o :: rest) a :=
  BigFrame.wpQuiet_want hw fun K hK => ho.elim (fun ho => BigFrame.quiet_move x ho (hK _ (by rw [hv]; exact h))) (fun ho => BigFrame.quiet_assign x ho (hK _ (by rw [hv]; exact h)))
theorem qb_skip (hw : Region.wanted o (yielded ops a.tmps) = false) (h : wpQuiet P ops C Q rest (a.put o.dst undef)) : wpQuiet P ops C Q (o :: rest) a :=
  BigFrame.wpQuiet_skip hw h
end

/-- of what stood in W nothing has turned -/
def CB (W w : World) : Prop := Below W.heap.size W w
theorem CB.refl (W : World) : CB W W := Below.refl _ _
theorem CB.drew0 (W : World) : CB W W.drew := (Below.refl _ _).drew
theorem CB.of_drew {W w : World} (h : Below W.drew.heap.size W.drew w) : CB W w := (CB.drew0 W).trans h
theorem CB.step {W w w' : World} (h : CB W w) (hb : Below w.heap.size w w') : CB W w' := h.trans (hb.mono h.size)

theorem region_qb {P : Program} {id : Nat} {Q : Exit → Act → World → Prop} {a : Act} {W : World} {l : List Oper} (hm : P.follows .mixedOrders = true) (hB : Region.lexB .any l.toArray = true)
    (h : wpQuiet P l.toArray (CB W) (fun a' => ∀ w, CB W w → Q .normal a' w) l a) : (Code.region id l.toArray true).wp P Q a W :=
  wp_region_quiet (C := CB W) hm hB ⟨rfl, rfl, rfl, Nat.le_refl _, fun _ _ => rfl⟩ (by simpa using h)
end Go.Proofs.YtboolbcckfldaaaDoor

/-! A region that draws its order, whose first operations only read (their callees leave what stands below as it was), and whose last ones come one behind the other: the first in the order of the text, the last as a list. -/
namespace Go.Proofs.YtboolbcckfldaaaDoor
open Go.RowKit Go
set_option linter.unusedVariables false

section
variable {P : Program} {ops : Array Oper} {C : World → Prop} {md : Region.Mode}

def wpHeadQ (P : Program) (md : Region.Mode) (ops : Array Oper) (C : World → Prop) (n : Nat) (L : Array Bool → Act → Prop) : Nat → Array Bool → Act → Prop
  | 0, d, a => L d a
  | f + 1, d, a => Region.ready md ops d ≠ [] ∧ ∀ i ∈ Region.ready md ops d, i < n ∧ qOp P ops C i (wpHeadQ P md ops C n L f (d.setIfInBounds i true)) a

theorem wpHeadQ.any {n g : Nat} {L : Array Bool → Act → Prop} {Q' : Exit → Act → World → Prop} (hL : ∀ d a w, C w → L d a → wpAny P md ops Q' g d a w) :
    ∀ (f : Nat) (d : Array Bool) (a : Act) (w : World), C w → wpHeadQ P md ops C n L f d a → wpAny P md ops Q' (f + g) d a w := by
  intro f
  induction f with
  | zero => intro d a w hC h; rw [Nat.zero_add]; exact hL _ _ _ hC h
  | succ f ih =>
    intro d a w hC h
    rw [show f + 1 + g = (f + g) + 1 by omega]
    exact ⟨fun h0 => absurd h0 h.1, fun i hi => wpOp_of_qOp hC (fun a' w' hC' h' => ih _ a' w' hC' h') (h.2 i hi).2⟩

theorem wpHeadQ.first {n i : Nat} {oi : Oper} {v : Value} {L : Array Bool → Act → Prop} (hi : ops[i]? = some oi) (hsel : Region.noSelect ops = true)
    (hs : Region.sinkB md ops n = true) (hc : Region.chainB md ops n = true) (hn : n < ops.size) (hin : i < n)
    (hL : ∀ d a, L d a → ∀ j ∈ Region.ready md ops d, n ≤ j) :
    ∀ (f : Nat) (d : Array Bool) (a : Act), HeadInv md ops n d →
      (∀ j oj, ops[j]? = some oj → j ≠ i → d.getD j true = false → (∀ e ∈ oj.after, Region.binds md e = true → e.on ≠ i) → oi.apart ops oj = true) →
      i ∈ Region.ready md ops d → YieldsIn P ops C oi v a →
      wpHeadQ P md ops C n L f (d.setIfInBounds i true) (a.put oi.dst v) → wpHeadQ P md ops C n L (f + 1) d a := by
  intro f
  induction f with
  | zero =>
    intro d a inv _ hr hy H
    refine ⟨fun h => (by rw [h] at hr; cases hr), fun j hj => ?_⟩
    have hjn : j < n := by
      rcases Nat.lt_or_ge j n with h | h
      · exact h
      · exact absurd hj (tail_waits hs hc hn inv _ i rfl hin (mem_ready.1 hr).1 j h)
    by_cases hji : j = i
    · rw [hji] at hjn ⊢; exact ⟨hjn, hy.qOp hi H⟩
    · have := hL _ _ H j (ready_mono hj hji); omega
  | succ f ih =>
    intro d a inv hfree hr hy H
    have hun := (mem_ready.1 hr).1
    refine ⟨fun h => (by rw [h] at hr; cases hr), fun j hj => ?_⟩
    have hjn : j < n := by
      rcases Nat.lt_or_ge j n with h | h
      · exact h
      · exact absurd hj (tail_waits hs hc hn inv _ i rfl hin hun j h)
    refine ⟨hjn, ?_⟩
    by_cases hji : j = i
    · rw [hji]; exact hy.qOp hi H
    · obtain ⟨hjun, oj, hoj, hall⟩ := mem_ready.1 hj
      have hno : ∀ e ∈ oj.after, Region.binds md e = true → e.on ≠ i := fun e he hb heq => by
        have := hall e he hb
        rw [heq, getD_both hun] at this
        cases this
      have h2 := qOp_put hoj (hfree j oj hoj hji hjun hno) (fun cs b => Region.noSelect_spec hsel i oi cs b hi) (fun cs b => Region.noSelect_spec hsel j oj cs b hoj) hy (H.2 j (ready_mono hj hji)).2
      refine qOp_mono (fun a' h3 => ih (d.setIfInBounds j true) a' (inv.set hj hjn) (fun k ok hk hki hkun hkno => hfree k ok hk hki ?_ hkno) (ready_mono hr (Ne.symm hji)) h3.1 ?_) h2
      · by_cases hjk : j = k
        · rw [← hjk]; exact hjun
        · rwa [getD_set_ne true hjk] at hkun
      · rw [Array.setIfInBounds_comm _ _ hji]; exact h3.2

theorem wpHeadQ.lex {n g : Nat} {K : Act → Prop} (hsel : Region.noSelect ops = true) (hs : Region.sinkB md ops n = true) (hc : Region.chainB md ops n = true) (hn : n < ops.size) :
    ∀ (l : List Oper) (k : Nat) (d : Array Bool) (a : Act), (∀ j, j < l.length → l[j]? = ops[k + j]?) → k + l.length = n → HeadInv md ops n d →
    Region.lexHead md ops g l.length k d = true → wpQuiet P ops C K l a →
    wpHeadQ P md ops C n (fun d' a' => Region.seqB md ops g n d' = true ∧ K a') l.length d a := by
  intro l
  induction l with
  | nil =>
    intro k d a _ hk _ hB h
    obtain rfl : k = n := by simpa using hk
    exact ⟨by simpa [Region.lexHead] using hB, h⟩
  | cons o l ih =>
    intro k d a hl hk inv hB h
    have h0 : ops[k]? = some o := by simpa using (hl 0 (by simp)).symm
    simp only [List.length_cons, Region.lexHead, Bool.and_eq_true] at hB
    obtain ⟨⟨hr, hf⟩, hB'⟩ := hB
    have hkn : k < n := by simp only [List.length_cons] at hk; omega
    have hr' : k ∈ Region.ready md ops d := by simpa using hr
    have hst : qOp P ops C k (wpQuiet P ops C K l) a := by unfold qOp; simp only [h0]; exact h
    obtain ⟨v, hy, hK⟩ := yieldsIn_of_qOp h0 hst
    exact wpHeadQ.first h0 hsel hs hc hn hkn (fun d' a' hL => seqB_ready hL.1) l.length d a inv (Region.free_spec h0 hf) hr' hy
      (ih (k + 1) _ _ (fun j hj => by have := hl (j + 1) (by simp; omega); simpa [Nat.add_assoc, Nat.add_comm 1 j] using this) (by simp only [List.length_cons] at hk; omega) (inv.set hr' hkn) hB' hK)

theorem region_qt {id : Nat} {Q : Exit → Act → World → Prop} {a : Act} {W : World} {l : List Oper} (n : Nat) (hm : P.follows .mixedOrders = true) (hB : Region.lexTailB .any l.toArray n = true)
    (h : wpQuiet P l.toArray (CB W) (fun a' => ∀ w', CB W w' → wpList P l.toArray Q (l.drop n) a' w') (l.take n) a) : (Code.region id l.toArray true).wp P Q a W := by
  simp only [Region.lexTailB, Bool.and_eq_true, decide_eq_true_eq] at hB
  obtain ⟨⟨⟨⟨hsel, hn⟩, hs⟩, hc⟩, hlex⟩ := hB
  have hn' : n < l.length := by simpa using hn
  have htl : (l.take n).length = n := by simp; omega
  have hdl : (l.drop n).length = l.toArray.size - n := by simp
  have inv0 : HeadInv .any l.toArray n (Array.replicate l.toArray.size false) :=
    ⟨by simp, fun j oj _ hl => (by rw [getD_replicate_false] at hl; cases hl), fun t _ ht => getD_in (by simpa using ht) (getD_replicate_false _ _)⟩
  have H := wpHeadQ.lex (md := .any) (g := l.toArray.size - n) hsel hs hc hn (l.take n) 0 _ a (fun j hj => by
    have hj' : j < n := by rw [htl] at hj; exact hj
    simp [hj']) (by simpa using htl) inv0 (by rw [htl]; exact hlex) h
  refine wp_region_any hm ?_
  have hC0 : CB W { W with drawn := W.drawn + 1 } := ⟨rfl, rfl, rfl, Nat.le_refl _, fun _ _ => rfl⟩
  have := wpHeadQ.any (Q' := Q) (g := l.toArray.size - n) (fun d a' w' hC' hL => by
    have := wpAny_of_seq (md := .any) (Q' := Q) (l.drop n) n d a' w' (fun j => by simp [List.getElem?_drop]) (by rw [hdl]; exact hL.1) (hL.2 w' hC')
    rwa [hdl] at this) _ _ _ _ hC0 H
  rw [htl, show n + (l.toArray.size - n) = l.toArray.size by omega] at this
  exact this
end
end Go.Proofs.YtboolbcckfldaaaDoor

/-! A region that draws its order: first operations that only read (their callees leave what stands below as it was), then new blocks for the results, then stores, one behind the other. The new blocks may come up at any time: their places are whatever places. -/
namespace Go.Proofs.YtboolbcckfldaaaDoor
open Go.RowKit Go
set_option linter.unusedVariables false

section
variable {P : Program} {ops : Array Oper} {md : Region.Mode} {W : World} {al : Nat → Option Obj}

def YieldsB (P : Program) (ops : Array Oper) (W : World) (o : Oper) (v : Value) (a : Act) : Prop :=
  (Region.wanted o (yielded ops a.tmps) = true ∧ ∀ w, CB W w → o.quietAt P a (CB w) w v) ∨ (Region.wanted o (yielded ops a.tmps) = false ∧ v = undef)

theorem YieldsB.of_same {o : Oper} {v : Value} {a a' : Act} (hy : YieldsB P ops W o v a) (he : execOp a'.eval o = execOp a.eval o)
    (hw : Region.wanted o (yielded ops a'.tmps) = Region.wanted o (yielded ops a.tmps)) : YieldsB P ops W o v a' := by
  unfold YieldsB Oper.quietAt at *
  rw [he, hw]
  exact hy

abbrev Gh := Nat → Option Nat
def Gh.set (g : Gh) (i b : Nat) : Gh := fun j => if j = i then some b else g j
theorem Gh.set_comm (g : Gh) {i j : Nat} (h : i ≠ j) (b c : Nat) : Gh.set (Gh.set g i b) j c = Gh.set (Gh.set g j c) i b := by
  funext k
  unfold Gh.set
  by_cases h1 : k = j
  · subst h1; simp [Ne.symm h]
  · by_cases h2 : k = i
    · subst h2; simp [h1]
    · simp [h1, h2]
def ptr (b : Nat) : Value := .pointer (some ⟨b, 0, none⟩)

def bqOp (P : Program) (ops : Array Oper) (W : World) (al : Nat → Option Obj) (i : Nat) (K : Act → Gh → Prop) (a : Act) (g : Gh) : Prop :=
  match ops[i]? with
  | none => False
  | some o => match al i with
    | some _ => ∀ b, W.heap.size ≤ b → K (a.put o.dst (ptr b)) (g.set i b)
    | none => ∃ v, YieldsB P ops W o v a ∧ K (a.put o.dst v) g

theorem bqOp_mono {i : Nat} {K K' : Act → Gh → Prop} {a : Act} {g : Gh} (h : ∀ a g, K a g → K' a g) (hh : bqOp P ops W al i K a g) : bqOp P ops W al i K' a g := by
  unfold bqOp at *
  split
  · rename_i h0; simp only [h0] at hh
  · rename_i o h0
    simp only [h0] at hh
    split
    · rename_i h1; simp only [h1] at hh; exact fun b hb => h _ _ (hh b hb)
    · rename_i h1; simp only [h1] at hh; obtain ⟨v, h2, h3⟩ := hh; exact ⟨v, h2, h _ _ h3⟩

def InvG (W : World) (al : Nat → Option Obj) (g : Gh) (w : World) : Prop :=
  CB W w ∧ (∀ i b ob, g i = some b → al i = some ob → w.heap[b]? = some ob) ∧ (∀ i b, g i = some b → W.heap.size ≤ b ∧ b < w.heap.size) ∧ ∀ i j b, g i = some b → g j = some b → i = j
theorem InvG.step {g : Gh} {w w' : World} (h : InvG W al g w) (hb : CB w w') : InvG W al g w' := by
  obtain ⟨h1, h2, h3, h4⟩ := h
  refine ⟨h1.step hb, fun i b ob hi ho => ?_, fun i b hi => ⟨(h3 i b hi).1, Nat.lt_of_lt_of_le (h3 i b hi).2 hb.size⟩, h4⟩
  rw [hb.block b (h3 i b hi).2]; exact h2 i b ob hi ho
theorem InvG.alloc {g : Gh} {w : World} (h : InvG W al g w) {i : Nat} {ob : Obj} (hi : al i = some ob) : InvG W al (g.set i w.heap.size) (w.alloc ob) := by
  have hb : CB w (w.alloc ob) := (Below.refl _ _).alloc (Nat.le_refl _) ob
  obtain ⟨h1, h2, h3, h4⟩ := h.step hb
  obtain ⟨g1, g2, g3, g4⟩ := h
  have hlt : ∀ j b, g j = some b → b < w.heap.size := fun j b hj => (g3 j b hj).2
  refine ⟨h1, fun j b o hj ho => ?_, fun j b hj => ?_, fun j k b hj hk => ?_⟩
  · unfold Gh.set at hj
    by_cases e : j = i
    · subst e
      simp at hj
      subst hj
      rw [hi] at ho
      cases ho
      exact heap_alloc_new w _
    · simp [e] at hj; exact h2 j b o hj ho
  · unfold Gh.set at hj
    by_cases e : j = i
    · simp [e] at hj; subst hj; exact ⟨g1.size, by simp⟩
    · simp [e] at hj; exact h3 j b hj
  · unfold Gh.set at hj hk
    by_cases e : j = i <;> by_cases e' : k = i
    · rw [e, e']
    · simp [e] at hj; simp [e'] at hk; have := hlt k b hk; omega
    · simp [e] at hj; simp [e'] at hk; have := hlt j b hj; omega
    · simp [e] at hj; simp [e'] at hk; exact h4 j k b hj hk

/-- the new blocks' operations: what they do, in whatever state and world -/
def Allocs (P : Program) (ops : Array Oper) (al : Nat → Option Obj) : Prop :=
  ∀ i o ob, ops[i]? = some o → al i = some ob → ∀ a : Act, Region.wanted o (yielded ops a.tmps) = true ∧ ∀ w, (execOp a.eval o).run P w = .ok (.value (ptr w.heap.size)) (w.alloc ob)

theorem wpOp_of_bqOp (hA : Allocs P ops al) {i : Nat} {K : Act → Gh → Prop} {K' : Act → World → Prop} {Q' : Exit → Act → World → Prop} {a : Act} {g : Gh} {w : World} (hI : InvG W al g w)
    (h : ∀ a' g' w', InvG W al g' w' → K a' g' → K' a' w') (hh : bqOp P ops W al i K a g) : wpOp P ops Q' i K' a w := by
  unfold bqOp at hh
  unfold wpOp
  split
  · rename_i h0; simp only [h0] at hh
  · rename_i o h0
    simp only [h0] at hh
    cases h1 : al i with
    | some ob =>
      simp only [h1] at hh
      obtain ⟨hw, hr⟩ := hA i o ob h0 h1 a
      rw [if_pos hw]
      refine .inl ?_
      unfold Oper.wp
      rw [hr w]
      exact h _ _ _ (hI.alloc h1) (hh _ hI.1.size)
    | none =>
      simp only [h1] at hh
      obtain ⟨v, hy, hK⟩ := hh
      rcases hy with ⟨hw, hq⟩ | ⟨hw, rfl⟩
      · rw [if_pos hw]
        refine .inl ?_
        have h3 := hq w hI.1
        unfold Oper.quietAt at h3
        unfold Oper.wp
        generalize (execOp a.eval o).run P w = r at *
        cases r with
        | ok n w' =>
          cases n <;> simp only [Oper.quietUpon] at h3 <;> simp only [Oper.upon]
          case value u => obtain ⟨e1, e2⟩ := h3; rw [e1, e2]; exact h _ _ _ hI hK
          case skip => obtain ⟨e1, e2⟩ := h3; rw [e1, ← e2]; exact h _ _ _ hI hK
          case enter f args =>
            obtain ⟨e1, hc⟩ := h3
            rw [e1]
            exact hc.mono fun e w'' ⟨he, hw''⟩ => by subst he; exact h _ _ _ (hI.step hw'') hK
        | halt x w' => simp only [Oper.quietUpon] at h3
      · rw [if_neg (by simp [hw])]
        exact h _ _ _ hI hK

def wpHeadB (P : Program) (md : Region.Mode) (ops : Array Oper) (W : World) (al : Nat → Option Obj) (n : Nat) (L : Array Bool → Act → Gh → Prop) : Nat → Array Bool → Act → Gh → Prop
  | 0, d, a, g => L d a g
  | f + 1, d, a, g => Region.ready md ops d ≠ [] ∧ ∀ i ∈ Region.ready md ops d, i < n ∧ bqOp P ops W al i (fun a' g' => wpHeadB P md ops W al n L f (d.setIfInBounds i true) a' g') a g

theorem wpHeadB.any (hA : Allocs P ops al) {n k : Nat} {L : Array Bool → Act → Gh → Prop} {Q' : Exit → Act → World → Prop} (hL : ∀ d a g w, InvG W al g w → L d a g → wpAny P md ops Q' k d a w) :
    ∀ (f : Nat) (d : Array Bool) (a : Act) (g : Gh) (w : World), InvG W al g w → wpHeadB P md ops W al n L f d a g → wpAny P md ops Q' (f + k) d a w := by
  intro f
  induction f with
  | zero => intro d a g w hI h; rw [Nat.zero_add]; exact hL _ _ _ _ hI h
  | succ f ih =>
    intro d a g w hI h
    rw [show f + 1 + k = (f + k) + 1 by omega]
    exact ⟨fun h0 => absurd h0 h.1, fun i hi => wpOp_of_bqOp hA hI (fun a' g' w' hI' h' => ih _ a' g' w' hI' h') (h.2 i hi).2⟩

theorem bqOp_put {j : Nat} {oi oj : Oper} {v : Value} (hj : ops[j]? = some oj) (hap : oi.apart ops oj = true)
    (hsi : ∀ cs b, oi.op ≠ .select cs b) (hsj : ∀ cs b, oj.op ≠ .select cs b) {K : Act → Gh → Prop} {a : Act} {g : Gh}
    (hy : YieldsB P ops W oi v a) (h : bqOp P ops W al j K (a.put oi.dst v) g) :
    bqOp P ops W al j (fun a' g' => YieldsB P ops W oi v a' ∧ K (a'.put oi.dst v) g') a g := by
  obtain ⟨h1, h2, h3⟩ := Oper.apart_spec hap
  have keep : ∀ (a : Act), YieldsB P ops W oi v a → ∀ u, YieldsB P ops W oi v (a.put oj.dst u) := fun a hy u =>
    hy.of_same (execOp_put oi hsi a oj.dst u h3) (wanted_put oi a oj.dst u h3)
  unfold bqOp at *
  simp only [hj] at *
  cases ha : al j with
  | some ob =>
    simp only [ha] at *
    exact fun b hb => ⟨keep a hy _, by rw [← Act.put_comm a v (ptr b) h2]; exact h b hb⟩
  | none =>
    simp only [ha] at *
    obtain ⟨u, hu, hn⟩ := h
    refine ⟨u, ?_, keep a hy u, by rw [← Act.put_comm a v u h2]; exact hn⟩
    unfold YieldsB Oper.quietAt at *
    rw [wanted_put oj a oi.dst v h1, execOp_put oj hsj a oi.dst v h1] at hu
    exact hu

theorem wpHeadB.first {n i : Nat} {oi : Oper} {v : Value} {L : Array Bool → Act → Gh → Prop} (hi : ops[i]? = some oi) (hai : al i = none) (hsel : Region.noSelect ops = true)
    (hs : Region.sinkB md ops n = true) (hc : Region.chainB md ops n = true) (hn : n < ops.size) (hin : i < n)
    (hL : ∀ d a g, L d a g → ∀ j ∈ Region.ready md ops d, n ≤ j) :
    ∀ (f : Nat) (d : Array Bool) (a : Act) (g : Gh), HeadInv md ops n d →
      (∀ j oj, ops[j]? = some oj → j ≠ i → d.getD j true = false → (∀ e ∈ oj.after, Region.binds md e = true → e.on ≠ i) → oi.apart ops oj = true) →
      i ∈ Region.ready md ops d → YieldsB P ops W oi v a →
      wpHeadB P md ops W al n L f (d.setIfInBounds i true) (a.put oi.dst v) g → wpHeadB P md ops W al n L (f + 1) d a g := by
  intro f
  induction f with
  | zero =>
    intro d a g inv _ hr hy H
    refine ⟨fun h => (by rw [h] at hr; cases hr), fun j hj => ?_⟩
    have hjn : j < n := by
      rcases Nat.lt_or_ge j n with h | h
      · exact h
      · exact absurd hj (tail_waits hs hc hn inv _ i rfl hin (mem_ready.1 hr).1 j h)
    by_cases hji : j = i
    · rw [hji] at hjn ⊢; refine ⟨hjn, ?_⟩; unfold bqOp; simp only [hi, hai]; exact ⟨v, hy, H⟩
    · have := hL _ _ _ H j (ready_mono hj hji); omega
  | succ f ih =>
    intro d a g inv hfree hr hy H
    have hun := (mem_ready.1 hr).1
    refine ⟨fun h => (by rw [h] at hr; cases hr), fun j hj => ?_⟩
    have hjn : j < n := by
      rcases Nat.lt_or_ge j n with h | h
      · exact h
      · exact absurd hj (tail_waits hs hc hn inv _ i rfl hin hun j h)
    refine ⟨hjn, ?_⟩
    by_cases hji : j = i
    · rw [hji]; unfold bqOp; simp only [hi, hai]; exact ⟨v, hy, H⟩
    · obtain ⟨hjun, oj, hoj, hall⟩ := mem_ready.1 hj
      have hno : ∀ e ∈ oj.after, Region.binds md e = true → e.on ≠ i := fun e he hb heq => by
        have := hall e he hb
        rw [heq, getD_both hun] at this
        cases this
      have h2 := bqOp_put hoj (hfree j oj hoj hji hjun hno) (fun cs b => Region.noSelect_spec hsel i oi cs b hi) (fun cs b => Region.noSelect_spec hsel j oj cs b hoj) hy (H.2 j (ready_mono hj hji)).2
      refine bqOp_mono (fun a' g' h3 => ih (d.setIfInBounds j true) a' g' (inv.set hj hjn) (fun k ok hk hki hkun hkno => hfree k ok hk hki ?_ hkno) (ready_mono hr (Ne.symm hji)) h3.1 ?_) h2
      · by_cases hjk : j = k
        · rw [← hjk]; exact hjun
        · rwa [getD_set_ne true hjk] at hkun
      · rw [Array.setIfInBounds_comm _ _ hji]; exact h3.2

/-- a new block first, where only new blocks are left -/
theorem wpHeadB.firstA {n i : Nat} {oi : Oper} {ob : Obj} {L : Array Bool → Act → Gh → Prop} (hi : ops[i]? = some oi) (hai : al i = some ob)
    (hs : Region.sinkB md ops n = true) (hc : Region.chainB md ops n = true) (hn : n < ops.size) (hin : i < n)
    (hL : ∀ d a g, L d a g → ∀ j ∈ Region.ready md ops d, n ≤ j) :
    ∀ (f : Nat) (d : Array Bool) (a : Act) (g : Gh), HeadInv md ops n d →
      (∀ j, j < n → d.getD j true = false → (al j).isSome = true) →
      (∀ j oj, ops[j]? = some oj → j ≠ i → d.getD j true = false → (∀ e ∈ oj.after, Region.binds md e = true → e.on ≠ i) → oi.apart ops oj = true) →
      i ∈ Region.ready md ops d →
      (∀ b, W.heap.size ≤ b → wpHeadB P md ops W al n L f (d.setIfInBounds i true) (a.put oi.dst (ptr b)) (g.set i b)) → wpHeadB P md ops W al n L (f + 1) d a g := by
  intro f
  induction f with
  | zero =>
    intro d a g inv hall _ hr H
    refine ⟨fun h => (by rw [h] at hr; cases hr), fun j hj => ?_⟩
    have hjn : j < n := by
      rcases Nat.lt_or_ge j n with h | h
      · exact h
      · exact absurd hj (tail_waits hs hc hn inv _ i rfl hin (mem_ready.1 hr).1 j h)
    by_cases hji : j = i
    · rw [hji] at hjn ⊢; refine ⟨hjn, ?_⟩; unfold bqOp; simp only [hi, hai]; exact H
    · have := hL _ _ _ (H _ (Nat.le_refl _)) j (ready_mono hj hji); omega
  | succ f ih =>
    intro d a g inv hal hfree hr H
    have hun := (mem_ready.1 hr).1
    refine ⟨fun h => (by rw [h] at hr; cases hr), fun j hj => ?_⟩
    have hjn : j < n := by
      rcases Nat.lt_or_ge j n with h | h
      · exact h
      · exact absurd hj (tail_waits hs hc hn inv _ i rfl hin hun j h)
    refine ⟨hjn, ?_⟩
    by_cases hji : j = i
    · rw [hji]; unfold bqOp; simp only [hi, hai]; exact H
    · obtain ⟨hjun, oj, hoj, hall⟩ := mem_ready.1 hj
      have hno : ∀ e ∈ oj.after, Region.binds md e = true → e.on ≠ i := fun e he hb heq => by
        have := hall e he hb
        rw [heq, getD_both hun] at this
        cases this
      obtain ⟨h1, h2, h3⟩ := Oper.apart_spec (hfree j oj hoj hji hjun hno)
      have hja := hal j hjn hjun
      obtain ⟨obj, haj⟩ := Option.isSome_iff_exists.1 hja
      unfold bqOp
      simp only [hoj, haj]
      intro c hcc
      refine ih (d.setIfInBounds j true) _ _ (inv.set hj hjn) (fun k hk hkun => hal k hk ?_) (fun k ok hk hki hkun hkno => hfree k ok hk hki ?_ hkno) (ready_mono hr (Ne.symm hji)) (fun b hb => ?_)
      · by_cases hjk : j = k
        · rw [← hjk]; exact hjun
        · rwa [getD_set_ne true hjk] at hkun
      · by_cases hjk : j = k
        · rw [← hjk]; exact hjun
        · rwa [getD_set_ne true hjk] at hkun
      · have h4 := ((H b hb).2 j (ready_mono hj hji)).2
        unfold bqOp at h4
        simp only [hoj, haj] at h4
        have h5 := h4 c hcc
        rw [Array.setIfInBounds_comm _ _ hji, ← Act.put_comm a (ptr b) (ptr c) h2, Gh.set_comm g hji]
        exact h5

theorem getD_set_self (d : Array Bool) (i : Nat) : (d.setIfInBounds i true).getD i true = true := by
  rcases Nat.lt_or_ge i d.size with h | h
  · simp [h]
  · simp

/-- the reading operations in the order of the text -/
def wpQB (P : Program) (ops : Array Oper) (W : World) (K : Act → Prop) : List Oper → Act → Prop
  | [], a => K a
  | o :: rest, a => ∃ v, YieldsB P ops W o v a ∧ wpQB P ops W K rest (a.put o.dst v)
/-- the new blocks -/
def wpAl (W : World) (K : Act → Gh → Prop) : List Oper → Nat → Act → Gh → Prop
  | [], _, a, g => K a g
  | o :: rest, i, a, g => ∀ b, W.heap.size ≤ b → wpAl W K rest (i + 1) (a.put o.dst (ptr b)) (g.set i b)

def alOf (m : Nat) (obs : List Obj) (i : Nat) : Option Obj := if m ≤ i then obs[i - m]? else none

theorem wpHeadB.lexA {m n k : Nat} {obs : List Obj} {K : Act → Gh → Prop} (hs : Region.sinkB md ops n = true) (hc : Region.chainB md ops n = true) (hn : n < ops.size) (hm : m + obs.length = n) :
    ∀ (l : List Oper) (i : Nat) (d : Array Bool) (a : Act) (g : Gh), (∀ j, j < l.length → l[j]? = ops[i + j]?) → i + l.length = n → m ≤ i → HeadInv md ops n d → (∀ j, j < i → d.getD j true = true) →
    Region.lexHead md ops k l.length i d = true → wpAl W K l i a g →
    wpHeadB P md ops W (alOf m obs) n (fun d' a' g' => Region.seqB md ops k n d' = true ∧ K a' g') l.length d a g := by
  intro l
  induction l with
  | nil =>
    intro i d a g _ hi _ _ _ hB h
    obtain rfl : i = n := by simpa using hi
    exact ⟨by simpa [Region.lexHead] using hB, h⟩
  | cons o l ih =>
    intro i d a g hl hi hmi inv hdone hB h
    have h0 : ops[i]? = some o := by simpa using (hl 0 (by simp)).symm
    simp only [List.length_cons, Region.lexHead, Bool.and_eq_true] at hB
    obtain ⟨⟨hr, hf⟩, hB'⟩ := hB
    have hin : i < n := by simp only [List.length_cons] at hi; omega
    have hr' : i ∈ Region.ready md ops d := by simpa using hr
    have hso : ∀ j, m ≤ j → j < n → (alOf m obs j).isSome = true := fun j h1 h2 => by
      unfold alOf; rw [if_pos h1]; simp; omega
    obtain ⟨ob, hob⟩ := Option.isSome_iff_exists.1 (hso i hmi hin)
    refine wpHeadB.firstA h0 hob hs hc hn hin (fun d' a' g' hL => seqB_ready hL.1) l.length d a g inv (fun j hj hju => ?_) (Region.free_spec h0 hf) hr' (fun b hb => ?_)
    · rcases Nat.lt_or_ge j i with h1 | h1
      · rw [hdone j h1] at hju; cases hju
      · exact hso j (by omega) hj
    · refine ih (i + 1) _ _ _ (fun j hj => by have := hl (j + 1) (by simp; omega); simpa [Nat.add_assoc, Nat.add_comm 1 j] using this) (by simp only [List.length_cons] at hi; omega) (by omega) (inv.set hr' hin) (fun j hj => ?_) hB' (h b hb)
      by_cases hji : i = j
      · subst hji; exact getD_set_self d i
      · rw [getD_set_ne true hji]; exact hdone j (by omega)

theorem wpHeadB.lex {m n k : Nat} {obs : List Obj} {K : Act → Gh → Prop} (hsel : Region.noSelect ops = true) (hs : Region.sinkB md ops n = true) (hc : Region.chainB md ops n = true) (hn : n < ops.size) (hm : m + obs.length = n)
    (la : List Oper) (hla : ∀ j, j < la.length → la[j]? = ops[m + j]?) (hlm : m + la.length = n) :
    ∀ (l : List Oper) (i : Nat) (d : Array Bool) (a : Act) (g : Gh), (∀ j, j < l.length → l[j]? = ops[i + j]?) → i + l.length = m → HeadInv md ops n d → (∀ j, j < i → d.getD j true = true) →
    Region.lexHead md ops k (l.length + la.length) i d = true → wpQB P ops W (fun a' => wpAl W K la m a' g) l a →
    wpHeadB P md ops W (alOf m obs) n (fun d' a' g' => Region.seqB md ops k n d' = true ∧ K a' g') (l.length + la.length) d a g := by
  intro l
  induction l with
  | nil =>
    intro i d a g _ hi inv hdone hB h
    obtain rfl : i = m := by simpa using hi
    simp only [List.length_nil, Nat.zero_add] at hB ⊢
    exact wpHeadB.lexA hs hc hn hm la i d a g hla hlm (Nat.le_refl _) inv hdone hB h
  | cons o l ih =>
    intro i d a g hl hi inv hdone hB h
    have h0 : ops[i]? = some o := by simpa using (hl 0 (by simp)).symm
    simp only [List.length_cons] at hi
    rw [List.length_cons, show l.length + 1 + la.length = (l.length + la.length) + 1 by omega] at hB ⊢
    simp only [Region.lexHead, Bool.and_eq_true] at hB
    obtain ⟨⟨hr, hf⟩, hB'⟩ := hB
    have hin : i < n := by omega
    have hr' : i ∈ Region.ready md ops d := by simpa using hr
    have hno : alOf m obs i = none := by unfold alOf; rw [if_neg (by omega)]
    obtain ⟨v, hy, hK⟩ := h
    refine wpHeadB.first h0 hno hsel hs hc hn hin (fun d' a' g' hL => seqB_ready hL.1) (l.length + la.length) d a g inv (Region.free_spec h0 hf) hr' hy ?_
    refine ih (i + 1) _ _ _ (fun j hj => by have := hl (j + 1) (by simp; omega); simpa [Nat.add_assoc, Nat.add_comm 1 j] using this) (by omega) (inv.set hr' hin) (fun j hj => ?_) hB' hK
    by_cases hji : i = j
    · subst hji; exact getD_set_self d i
    · rw [getD_set_ne true hji]; exact hdone j (by omega)

theorem region_bq {id : Nat} {Q : Exit → Act → World → Prop} {a : Act} {l : List Oper} (m : Nat) (obs : List Obj) (hmm : P.follows .mixedOrders = true) (hB : Region.lexTailB .any l.toArray (m + obs.length) = true)
    (hA : Allocs P l.toArray (alOf m obs))
    (h : wpQB P l.toArray W (fun a' => wpAl W (fun a' g' => ∀ w', InvG W (alOf m obs) g' w' → wpList P l.toArray Q (l.drop (m + obs.length)) a' w') ((l.drop m).take obs.length) m a' (fun _ => none)) (l.take m) a) : (Code.region id l.toArray true).wp P Q a W := by
  simp only [Region.lexTailB, Bool.and_eq_true, decide_eq_true_eq] at hB
  obtain ⟨⟨⟨⟨hsel, hn⟩, hs⟩, hc⟩, hlex⟩ := hB
  have hn' : m + obs.length < l.length := by simpa using hn
  have htl : (l.take m).length = m := by simp; omega
  have hal : ((l.drop m).take obs.length).length = obs.length := by simp; omega
  have hdl : (l.drop (m + obs.length)).length = l.toArray.size - (m + obs.length) := by simp
  have inv0 : HeadInv .any l.toArray (m + obs.length) (Array.replicate l.toArray.size false) :=
    ⟨by simp, fun j oj _ hl => (by rw [getD_replicate_false] at hl; cases hl), fun t _ ht => getD_in (by simpa using ht) (getD_replicate_false _ _)⟩
  have H := wpHeadB.lex (md := .any) (k := l.toArray.size - (m + obs.length)) (obs := obs) hsel hs hc hn rfl ((l.drop m).take obs.length) (fun j hj => by
      rw [hal] at hj
      simp [List.getElem?_drop, hj]) (by rw [hal]) (l.take m) 0 _ a (fun _ => none) (fun j hj => by
      have hj' : j < m := by rw [htl] at hj; exact hj
      simp [hj']) (by simpa using htl) inv0 (fun j hj => by omega) (by rw [htl, hal]; exact hlex) h
  refine wp_region_any hmm ?_
  have hI : InvG W (alOf m obs) (fun _ => none) { W with drawn := W.drawn + 1 } := ⟨⟨rfl, rfl, rfl, Nat.le_refl _, fun _ _ => rfl⟩, fun _ _ _ h => (by cases h), fun _ _ h => (by cases h), fun _ _ _ h => by cases h⟩
  have := wpHeadB.any (Q' := Q) (k := l.toArray.size - (m + obs.length)) hA (fun d a' g' w' hI' hL => by
    have := wpAny_of_seq (md := .any) (Q' := Q) (l.drop (m + obs.length)) (m + obs.length) d a' w' (fun j => by simp [List.getElem?_drop]) (by rw [hdl]; exact hL.1) (hL.2 w' hI')
    rwa [hdl] at this) _ _ _ _ _ hI H
  rw [htl, hal, show m + obs.length + (l.toArray.size - (m + obs.length)) = l.toArray.size by omega] at this
  exact this

variable {K : Act → Prop} {a : Act} {o : Oper} {rest : List Oper}
theorem bq_run (v : Value) (hw : Region.wanted o (yielded ops a.tmps) = true) (hy : ∀ w, CB W w → (execOp a.eval o).run P w = .ok (.value v) w) (h : wpQB P ops W K rest (a.put o.dst v)) : wpQB P ops W K (o :: rest) a :=
  ⟨v, .inl ⟨hw, fun w hC => by unfold Oper.quietAt; rw [hy w hC]; exact ⟨rfl, rfl⟩⟩, h⟩
theorem bq_call (v : Value) (f : FuncId) (args : Array Value) (hw : Region.wanted o (yielded ops a.tmps) = true) (hf : ∀ w, (execOp a.eval o).run P w = .ok (.enter f args) w) (hy : ∀ w, CB W w → Calls P f args w (fun e w' => e = .returned v ∧ Below w.heap.size w w'))
    (h : wpQB P ops W K rest (a.put o.dst v)) : wpQB P ops W K (o :: rest) a :=
  ⟨v, .inl ⟨hw, fun w hC => by unfold Oper.quietAt; rw [hf w]; exact ⟨rfl, hy w hC⟩⟩, h⟩
theorem bq_mv (v : Value) (x : Operand) (ho : (o.op = .move x ∨ o.op = .assign x)) (hw : Region.wanted o (yielded ops a.tmps) = true) (hv : a.eval x = v) (h : wpQB P ops W K rest (a.put o.dst v)) : wpQB P ops W K (o :: rest) a :=
  ⟨v, .inl ⟨hw, fun w hC => by
    subst hv
    unfold Oper.quietAt
    rcases ho with ho | ho
    · rw [BigFrame.run_move x ho]; exact ⟨rfl, rfl⟩
    · rw [BigFrame.run_assign x ho]; exact ⟨rfl, rfl⟩⟩, h⟩
theorem bq_skip (hw : Region.wanted o (yielded ops a.tmps) = false) (h : wpQB P ops W K rest (a.put o.dst undef)) : wpQB P ops W K (o :: rest) a :=
  ⟨undef, .inr ⟨hw, rfl⟩, h⟩
theorem bq_nil (h : K a) : wpQB P ops W K [] a := h

theorem InvG.at1 {m : Nat} {o1 : Obj} {b1 : Nat} {w : World} (h : InvG W (alOf m [o1]) (Gh.set (fun _ => none) m b1) w) : CB W w ∧ w.heap[b1]? = some o1 :=
  ⟨h.1, h.2.1 m b1 o1 (by simp [Gh.set]) (by simp [alOf])⟩
theorem InvG.at2 {m : Nat} {o1 o2 : Obj} {b1 b2 : Nat} {w : World} (h : InvG W (alOf m [o1, o2]) (Gh.set (Gh.set (fun _ => none) m b1) (m + 1) b2) w) : CB W w ∧ w.heap[b1]? = some o1 ∧ w.heap[b2]? = some o2 ∧ b1 ≠ b2 :=
  ⟨h.1, h.2.1 m b1 o1 (by simp [Gh.set]) (by simp [alOf]), h.2.1 (m + 1) b2 o2 (by simp [Gh.set]) (by simp [alOf]), fun e => by
    have := h.2.2.2 m (m + 1) b1 (by simp [Gh.set]) (by simp [Gh.set, e])
    omega⟩
theorem InvG.at3 {m : Nat} {o1 o2 o3 : Obj} {b1 b2 b3 : Nat} {w : World} (h : InvG W (alOf m [o1, o2, o3]) (Gh.set (Gh.set (Gh.set (fun _ => none) m b1) (m + 1) b2) (m + 1 + 1) b3) w) : CB W w ∧ w.heap[b1]? = some o1 ∧ w.heap[b2]? = some o2 ∧ w.heap[b3]? = some o3 ∧ b1 ≠ b2 ∧ b1 ≠ b3 ∧ b2 ≠ b3 := by
  have e1 : Gh.set (Gh.set (Gh.set (fun _ => none) m b1) (m + 1) b2) (m + 1 + 1) b3 m = some b1 := by simp only [Gh.set]; rw [if_neg (by omega), if_neg (by omega), if_pos trivial]
  have e2 : Gh.set (Gh.set (Gh.set (fun _ => none) m b1) (m + 1) b2) (m + 1 + 1) b3 (m + 1) = some b2 := by simp only [Gh.set]; rw [if_neg (by omega), if_pos trivial]
  have e3 : Gh.set (Gh.set (Gh.set (fun _ => none) m b1) (m + 1) b2) (m + 1 + 1) b3 (m + 1 + 1) = some b3 := by simp only [Gh.set]; rw [if_pos trivial]
  refine ⟨h.1, h.2.1 m b1 o1 e1 (by simp [alOf]), h.2.1 (m + 1) b2 o2 e2 (by simp [alOf]), h.2.1 (m + 1 + 1) b3 o3 e3 (by unfold alOf; rw [if_pos (by omega), show m + 1 + 1 - m = 2 by omega]; rfl), fun e => ?_, fun e => ?_, fun e => ?_⟩
  · subst e; have := h.2.2.2 _ _ _ e1 e2; omega
  · subst e; have := h.2.2.2 _ _ _ e1 e3; omega
  · subst e; have := h.2.2.2 _ _ _ e2 e3; omega
theorem InvG.at0 {m : Nat} {w : World} (h : InvG W (alOf m []) (fun _ => none) w) : CB W w := h.1
end
end Go.Proofs.YtboolbcckfldaaaDoor
