import Derived.Test.YtboolbcckfldaaaDoorMem
import Derived.StillTail
import Derived.OrdersHeld
import Derived.Deep.RegionHeld3
/-! A region that draws its order, with loads ahead of calls and stores at its end: the operations are walked in ONE order of the prover's choice. -/
namespace Go.Proofs.YtboolbcckfldaaaDoor
open Go.RowKit Go
set_option linter.unusedVariables false
set_option linter.unusedSimpArgs false

section
variable {P : Program} {ops : Array Oper} {Q : Exit → Act → World → Prop} {md : Region.Mode} {S : World → Prop}

/-- the head's operations, any order, S behind each; then L -/
def wpFore (P : Program) (md : Region.Mode) (ops : Array Oper) (Q : Exit → Act → World → Prop) (S : World → Prop) (n : Nat) (L : Array Bool → Act → World → Prop) : Nat → Array Bool → Act → World → Prop
  | 0, d, a, w => L d a w
  | f + 1, d, a, w => Region.ready md ops d ≠ [] ∧ ∀ i, i ∈ Region.ready md ops d → i < n ∧ wpOp P ops Q i (fun a' w' => S w' ∧ wpFore P md ops Q S n L f (d.setIfInBounds i true) a' w') a w

theorem wpFore.any {n g : Nat} {L : Array Bool → Act → World → Prop} (hL : ∀ d a w, L d a w → wpAny P md ops Q g d a w) :
    ∀ (f : Nat) (d : Array Bool) (a : Act) (w : World), wpFore P md ops Q S n L f d a w → wpAny P md ops Q (f + g) d a w := by
  intro f
  induction f with
  | zero => intro d a w h; rw [Nat.zero_add]; exact hL _ _ _ h
  | succ f ih =>
    intro d a w h
    have e : f + 1 + g = (f + g) + 1 := by omega
    rw [e]
    exact ⟨fun h0 => absurd h0 h.1, fun i hi => wpOp_mono (fun a' w' h' => ih _ _ _ h'.2) (h.2 i hi).2⟩

theorem wpFore.early {n i : Nat} {o : Oper} {v : Value} {L : Array Bool → Act → World → Prop} (hi : ops[i]? = some o) (hsel : Region.noSelect ops = true)
    (hs : Region.sinkB md ops n = true) (hc : Region.chainB md ops n = true) (hn : n < ops.size) (hin : i < n)
    (hQ : ∀ c a w, Q (.panic c) (a.put o.dst v) w → Q (.panic c) a w)
    (hL : ∀ d a w, L d a w → ∀ j, j ∈ Region.ready md ops d → n ≤ j) :
    ∀ (f : Nat) (d : Array Bool) (a : Act) (w : World), HeadInv md ops n d →
      (∀ j oj, ops[j]? = some oj → j ≠ i → d.getD j true = false → (∀ e ∈ oj.after, Region.binds md e = true → e.on ≠ i) → o.apart ops oj = true) →
      i ∈ Region.ready md ops d → YieldsIf P ops S o v a → S w →
      wpFore P md ops Q S n L f (d.setIfInBounds i true) (a.put o.dst v) w → wpFore P md ops Q S n L (f + 1) d a w := by
  intro f
  induction f with
  | zero =>
    intro d a w inv _ hr hy hS H
    refine ⟨fun h => (by rw [h] at hr; cases hr), fun j hj => ?_⟩
    have hjn : j < n := by
      rcases Nat.lt_or_ge j n with h | h
      · exact h
      · exact absurd hj (tail_waits hs hc hn inv _ i rfl hin (mem_ready.1 hr).1 j h)
    by_cases hji : j = i
    · rw [hji] at hjn ⊢; exact ⟨hjn, hy.wpOp hi hS ⟨hS, H⟩⟩
    · have := hL _ _ _ H j (ready_mono hj hji); omega
  | succ f ih =>
    intro d a w inv hfree hr hy hS H
    have hun := (mem_ready.1 hr).1
    refine ⟨fun h => (by rw [h] at hr; cases hr), fun j hj => ?_⟩
    have hjn : j < n := by
      rcases Nat.lt_or_ge j n with h | h
      · exact h
      · exact absurd hj (tail_waits hs hc hn inv _ i rfl hin hun j h)
    refine ⟨hjn, ?_⟩
    by_cases hji : j = i
    · rw [hji]; exact hy.wpOp hi hS ⟨hS, H⟩
    · obtain ⟨hjun, oj, hoj, hall⟩ := mem_ready.1 hj
      have hno : ∀ e ∈ oj.after, Region.binds md e = true → e.on ≠ i := fun e he hb heq => by
        have := hall e he hb
        rw [heq, getD_both hun] at this
        cases this
      have h2 := wpOp_putIf hoj (hfree j oj hoj hji hjun hno) (fun cs b => Region.noSelect_spec hsel i o cs b hi) (fun cs b => Region.noSelect_spec hsel j oj cs b hoj) hQ hy (H.2 j (ready_mono hj hji)).2
      refine wpOp_mono (fun a' w' h3 => ⟨h3.2.1, ?_⟩) h2
      refine ih (d.setIfInBounds j true) a' w' (inv.set hj hjn) (fun k ok hk hki hkun hkno => hfree k ok hk hki ?_ hkno) (ready_mono hr (Ne.symm hji)) h3.1 h3.2.1 ?_
      · by_cases hjk : j = k
        · rw [← hjk]; exact hjun
        · rwa [getD_set_ne true hjk] at hkun
      · rw [Array.setIfInBounds_comm _ _ hji]; exact h3.2.2

/-- the prover's order: (i, true) is looked at ahead of its turn, (i, false) is carried out -/
def wpBy (P : Program) (ops : Array Oper) (Q : Exit → Act → World → Prop) (S : World → Prop) (K : Act → World → Prop) : List (Nat × Bool) → Act → World → Prop
  | [], a, w => K a w
  | (i, true) :: l, a, w => ∃ o v, ops[i]? = some o ∧ YieldsIf P ops S o v a ∧ wpBy P ops Q S K l (a.put o.dst v) w
  | (i, false) :: l, a, w => wpOp P ops Q i (fun a' w' => S w' ∧ wpBy P ops Q S K l a' w') a w

def byB (md : Region.Mode) (ops : Array Oper) (n : Nat) : List (Nat × Bool) → Array Bool → Bool
  | [], d => Region.seqB md ops (ops.size - n) n d
  | (i, b) :: l, d => decide (i < n) && (Region.ready md ops d).contains i && (if b then Region.free md ops d i else decide (Region.ready md ops d = [i])) && byB md ops n l (d.setIfInBounds i true)

def byOk (md : Region.Mode) (ops : Array Oper) (n : Nat) (l : List (Nat × Bool)) : Bool :=
  Region.noSelect ops && decide (n < ops.size) && Region.sinkB md ops n && Region.chainB md ops n && decide (l.length = n) && byB md ops n l (Array.replicate ops.size false)

theorem wpBy.fore {n : Nat} {K : Act → World → Prop} (hsel : Region.noSelect ops = true)
    (hs : Region.sinkB md ops n = true) (hc : Region.chainB md ops n = true) (hn : n < ops.size)
    (hQ : ∀ c a d v w, Q (.panic c) (Act.put a d v) w → Q (.panic c) a w) :
    ∀ (l : List (Nat × Bool)) (d : Array Bool) (a : Act) (w : World), HeadInv md ops n d → byB md ops n l d = true → S w → wpBy P ops Q S K l a w →
      wpFore P md ops Q S n (fun d' a' w' => Region.seqB md ops (ops.size - n) n d' = true ∧ K a' w') l.length d a w := by
  intro l
  induction l with
  | nil => intro d a w _ hB _ h; exact ⟨hB, h⟩
  | cons x l ih =>
    obtain ⟨i, b⟩ := x
    intro d a w inv hB hS h
    simp only [byB, Bool.and_eq_true, decide_eq_true_eq] at hB
    obtain ⟨⟨⟨hin, hr⟩, hf⟩, hB'⟩ := hB
    have hr' : i ∈ Region.ready md ops d := by simpa using hr
    cases b with
    | true =>
      obtain ⟨o, v, ho, hy, hK⟩ := h
      simp only [if_true] at hf
      exact wpFore.early ho hsel hs hc hn hin (fun c a w => hQ c a _ v w) (fun d' a' w' hL => seqB_ready hL.1) l.length d a w inv (Region.free_spec ho hf) hr' hy hS (ih _ _ _ (inv.set hr' hin) hB' hS hK)
    | false =>
      simp only [Bool.false_eq_true, if_false, decide_eq_true_eq] at hf
      refine ⟨fun h0 => (by rw [h0] at hr'; cases hr'), fun j hj => ?_⟩
      rw [hf] at hj
      have hj' : j = i := by simpa using hj
      subst hj'
      exact ⟨hin, wpOp_mono (fun a' w' h' => ⟨h'.1, ih _ _ _ (inv.set hr' hin) hB' h'.1 h'.2⟩) h⟩

/-- the law: the head in the prover's order, the rest in its own -/
theorem region_by {id : Nat} {a : Act} {w : World} {ol : List Oper} (S : World → Prop) (n : Nat) (l : List (Nat × Bool)) (hm : P.follows .mixedOrders = true) (hB : byOk .any ol.toArray n l = true)
    (hS : S w.drew)
    (h : wpBy P ol.toArray (NoPanic Q) S (fun a' w' => wpList P ol.toArray (NoPanic Q) (ol.drop n) a' w') l a w.drew) : (Code.region id ol.toArray true).wp P Q a w := by
  simp only [byOk, Bool.and_eq_true, decide_eq_true_eq] at hB
  obtain ⟨⟨⟨⟨⟨hsel, hn⟩, hs⟩, hc⟩, hl⟩, hB⟩ := hB
  have inv0 : HeadInv .any ol.toArray n (Array.replicate ol.toArray.size false) :=
    ⟨by simp, fun j oj _ hl => (by rw [getD_replicate_false] at hl; cases hl), fun t _ ht => getD_in (by simpa using ht) (getD_replicate_false _ _)⟩
  refine wp_region_noPanic (wp_region_any hm ?_)
  have hdl : (ol.drop n).length = ol.toArray.size - n := by simp
  have H := wpFore.any (g := ol.toArray.size - n) (fun d' a' w' hL => by
    have := wpAny_of_seq (md := .any) (ol.drop n) n d' a' w' (fun j => by simp [List.getElem?_drop]) (by rw [hdl]; exact hL.1) hL.2
    rwa [hdl] at this) _ _ _ _ (wpBy.fore hsel hs hc hn (fun _ _ _ _ _ h => h) l _ a w.drew inv0 hB hS h)
  rw [hl] at H
  have e : n + (ol.toArray.size - n) = ol.toArray.size := by omega
  rw [e] at H
  exact H

theorem wpBy.look {K : Act → World → Prop} {i : Nat} {l : List (Nat × Bool)} {a : Act} {w : World} (o : Oper) (v : Value) (ho : ops[i]? = some o)
    (hw : Region.wanted o (yielded ops a.tmps) = true) (hy : ∀ w, S w → (execOp a.eval o).run P w = .ok (.value v) w) (h : wpBy P ops Q S K l (a.put o.dst v) w) : wpBy P ops Q S K ((i, true) :: l) a w :=
  ⟨o, v, ho, .inl ⟨hw, hy⟩, h⟩
theorem wpBy.do {K : Act → World → Prop} {i : Nat} {l : List (Nat × Bool)} {a : Act} {w : World} (o : Oper) (ho : ops[i]? = some o)
    (h : ∀ K' : Act → World → Prop, Shut (∀ a w, S w → wpBy P ops Q S K l a w → K' a w) → if Region.wanted o (yielded ops a.tmps) = true then Oper.wp P o a w K' Q else K' (a.put o.dst undef) w) : wpBy P ops Q S K ((i, false) :: l) a w :=
  wpOp_step ho (fun K' hK => h K' (fun a w hS hW => hK a w ⟨hS, hW⟩))
end
end Go.Proofs.YtboolbcckfldaaaDoor
