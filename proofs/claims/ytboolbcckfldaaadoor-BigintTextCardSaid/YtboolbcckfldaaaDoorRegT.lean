import Derived.Test.YtboolbcckfldaaaDoorReg
/-! A region that draws its order, where two operations that make memory may stand in either order: the walk is a tree of the prover's choice. -/
namespace Go.Proofs.YtboolbcckfldaaaDoor
open Go.RowKit Go
set_option linter.unusedVariables false
set_option linter.unusedSimpArgs false

/-- the prover's tree: look ahead at i; carry out i, the only one ready; carry out i or j, the two that are ready -/
inductive Tr
  | nil : Tr
  | look (i : Nat) (t : Tr) : Tr
  | one (i : Nat) (t : Tr) : Tr
  | two (i j : Nat) (s t : Tr) : Tr

section
variable {P : Program} {ops : Array Oper} {Q : Exit → Act → World → Prop} {md : Region.Mode} {S : World → Prop}

def wpTr (P : Program) (ops : Array Oper) (Q : Exit → Act → World → Prop) (S : World → Prop) (K : Act → World → Prop) : Tr → Act → World → Prop
  | .nil, a, w => K a w
  | .look i t, a, w => ∃ o v, ops[i]? = some o ∧ YieldsIf P ops S o v a ∧ wpTr P ops Q S K t (a.put o.dst v) w
  | .one i t, a, w => wpOp P ops Q i (fun a' w' => S w' ∧ wpTr P ops Q S K t a' w') a w
  | .two i j s t, a, w => wpOp P ops Q i (fun a' w' => S w' ∧ wpTr P ops Q S K s a' w') a w ∧ wpOp P ops Q j (fun a' w' => S w' ∧ wpTr P ops Q S K t a' w') a w

def trB (md : Region.Mode) (ops : Array Oper) (n : Nat) : Tr → Nat → Array Bool → Bool
  | .nil, g, d => decide (g = 0) && Region.seqB md ops (ops.size - n) n d
  | .look i t, g, d => decide (1 ≤ g) && decide (i < n) && (Region.ready md ops d).contains i && Region.free md ops d i && trB md ops n t (g - 1) (d.setIfInBounds i true)
  | .one i t, g, d => decide (1 ≤ g) && decide (i < n) && (Region.ready md ops d).contains i && decide (Region.ready md ops d = [i]) && trB md ops n t (g - 1) (d.setIfInBounds i true)
  | .two i j s t, g, d => decide (1 ≤ g) && decide (i < n) && decide (j < n) && decide (Region.ready md ops d = [i, j]) && trB md ops n s (g - 1) (d.setIfInBounds i true) && trB md ops n t (g - 1) (d.setIfInBounds j true)

def trOk (md : Region.Mode) (ops : Array Oper) (n : Nat) (t : Tr) : Bool :=
  Region.noSelect ops && decide (n < ops.size) && Region.sinkB md ops n && Region.chainB md ops n && trB md ops n t n (Array.replicate ops.size false)

theorem wpTr.fore {n : Nat} {K : Act → World → Prop} (hsel : Region.noSelect ops = true)
    (hs : Region.sinkB md ops n = true) (hc : Region.chainB md ops n = true) (hn : n < ops.size)
    (hQ : ∀ c a d v w, Q (.panic c) (Act.put a d v) w → Q (.panic c) a w) :
    ∀ (t : Tr) (g : Nat) (d : Array Bool) (a : Act) (w : World), HeadInv md ops n d → trB md ops n t g d = true → S w → wpTr P ops Q S K t a w →
      wpFore P md ops Q S n (fun d' a' w' => Region.seqB md ops (ops.size - n) n d' = true ∧ K a' w') g d a w := by
  intro t
  induction t with
  | nil =>
    intro g d a w _ hB _ h
    simp only [trB, Bool.and_eq_true, decide_eq_true_eq] at hB
    obtain ⟨rfl, hB⟩ := hB
    exact ⟨hB, h⟩
  | look i t ih =>
    intro g d a w inv hB hS h
    simp only [trB, Bool.and_eq_true, decide_eq_true_eq] at hB
    obtain ⟨⟨⟨⟨hg, hin⟩, hr⟩, hf⟩, hB'⟩ := hB
    obtain ⟨g, rfl⟩ : ∃ k, g = k + 1 := ⟨g - 1, by omega⟩
    rw [Nat.add_sub_cancel] at hB'
    have hr' : i ∈ Region.ready md ops d := by simpa using hr
    obtain ⟨o, v, ho, hy, hK⟩ := h
    exact wpFore.early ho hsel hs hc hn hin (fun c a w => hQ c a _ v w) (fun d' a' w' hL => seqB_ready hL.1) g d a w inv (Region.free_spec ho hf) hr' hy hS (ih _ _ _ _ (inv.set hr' hin) hB' hS hK)
  | one i t ih =>
    intro g d a w inv hB hS h
    simp only [trB, Bool.and_eq_true, decide_eq_true_eq] at hB
    obtain ⟨⟨⟨⟨hg, hin⟩, hr⟩, hf⟩, hB'⟩ := hB
    obtain ⟨g, rfl⟩ : ∃ k, g = k + 1 := ⟨g - 1, by omega⟩
    rw [Nat.add_sub_cancel] at hB'
    have hr' : i ∈ Region.ready md ops d := by simpa using hr
    refine ⟨fun h0 => (by rw [h0] at hr'; cases hr'), fun j hj => ?_⟩
    rw [hf] at hj
    have hj' : j = i := by simpa using hj
    subst hj'
    exact ⟨hin, wpOp_mono (fun a' w' h' => ⟨h'.1, ih _ _ _ _ (inv.set hr' hin) hB' h'.1 h'.2⟩) h⟩
  | two i j s t ihs iht =>
    intro g d a w inv hB hS h
    simp only [trB, Bool.and_eq_true, decide_eq_true_eq] at hB
    obtain ⟨⟨⟨⟨⟨hg, hin⟩, hjn⟩, hf⟩, hB1⟩, hB2⟩ := hB
    obtain ⟨g, rfl⟩ : ∃ k, g = k + 1 := ⟨g - 1, by omega⟩
    rw [Nat.add_sub_cancel] at hB1 hB2
    refine ⟨fun h0 => (by rw [h0] at hf; cases hf), fun k hk => ?_⟩
    have hk' : k = i ∨ k = j := by rw [hf] at hk; simpa using hk
    rcases hk' with rfl | rfl
    · exact ⟨hin, wpOp_mono (fun a' w' h' => ⟨h'.1, ihs _ _ _ _ (inv.set hk hin) hB1 h'.1 h'.2⟩) h.1⟩
    · exact ⟨hjn, wpOp_mono (fun a' w' h' => ⟨h'.1, iht _ _ _ _ (inv.set hk hjn) hB2 h'.1 h'.2⟩) h.2⟩

/-- the law: the head by the prover's tree, the rest in its own order -/
theorem region_tr {id : Nat} {a : Act} {w : World} {ol : List Oper} (S : World → Prop) (n : Nat) (t : Tr) (hm : P.follows .mixedOrders = true) (hB : trOk .any ol.toArray n t = true)
    (hS : S w.drew)
    (h : wpTr P ol.toArray (NoPanic Q) S (fun a' w' => wpList P ol.toArray (NoPanic Q) (ol.drop n) a' w') t a w.drew) : (Code.region id ol.toArray true).wp P Q a w := by
  simp only [trOk, Bool.and_eq_true, decide_eq_true_eq] at hB
  obtain ⟨⟨⟨⟨hsel, hn⟩, hs⟩, hc⟩, hB⟩ := hB
  have inv0 : HeadInv .any ol.toArray n (Array.replicate ol.toArray.size false) :=
    ⟨by simp, fun j oj _ hl => (by rw [getD_replicate_false] at hl; cases hl), fun t _ ht => getD_in (by simpa using ht) (getD_replicate_false _ _)⟩
  refine wp_region_noPanic (wp_region_any hm ?_)
  have hdl : (ol.drop n).length = ol.toArray.size - n := by simp
  have H := wpFore.any (g := ol.toArray.size - n) (fun d' a' w' hL => by
    have := wpAny_of_seq (md := .any) (ol.drop n) n d' a' w' (fun j => by simp [List.getElem?_drop]) (by rw [hdl]; exact hL.1) hL.2
    rwa [hdl] at this) _ _ _ _ (wpTr.fore hsel hs hc hn (fun _ _ _ _ _ h => h) t n _ a w.drew inv0 hB hS h)
  have e : n + (ol.toArray.size - n) = ol.toArray.size := by omega
  rw [e] at H
  exact H

theorem wpTr.eye {K : Act → World → Prop} {i : Nat} {t : Tr} {a : Act} {w : World} (o : Oper) (v : Value) (ho : ops[i]? = some o)
    (hw : Region.wanted o (yielded ops a.tmps) = true) (hy : ∀ w, S w → (execOp a.eval o).run P w = .ok (.value v) w) (h : wpTr P ops Q S K t (a.put o.dst v) w) : wpTr P ops Q S K (.look i t) a w :=
  ⟨o, v, ho, .inl ⟨hw, hy⟩, h⟩
theorem wpTr.do1 {K : Act → World → Prop} {i : Nat} {t : Tr} {a : Act} {w : World} (o : Oper) (ho : ops[i]? = some o)
    (h : ∀ K' : Act → World → Prop, Shut (∀ a w, S w → wpTr P ops Q S K t a w → K' a w) → if Region.wanted o (yielded ops a.tmps) = true then Oper.wp P o a w K' Q else K' (a.put o.dst undef) w) : wpTr P ops Q S K (.one i t) a w :=
  wpOp_step ho (fun K' hK => h K' (fun a w hS hW => hK a w ⟨hS, hW⟩))
theorem wpTr.do2 {K : Act → World → Prop} {i j : Nat} {s t : Tr} {a : Act} {w : World} (h1 : wpTr P ops Q S K (.one i s) a w) (h2 : wpTr P ops Q S K (.one j t) a w) : wpTr P ops Q S K (.two i j s t) a w := ⟨h1, h2⟩
end
end Go.Proofs.YtboolbcckfldaaaDoor
