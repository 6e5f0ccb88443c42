/- The given program's vectors: validity, a loop over an iterator's numbers. -/
import Derived.RangeFuncNested
import Derived.RangeFuncLeaves
import Derived.TacticsIn
import Derived.Test.YtegnalgjjmpcmaaGreatDoorPVVecR
import Derived.Test.YtegnalgjjmpcmaaGreatDoorPVI
import Derived.Test.YtegnalgjjmpcmaaGreatDoorPVK
namespace Go.Proofs.YtegnalgjjmpcmaaGreatDoor
open Go Go.RowKit
set_option maxRecDepth 100000
set_option linter.unusedVariables false
set_option linter.unusedSimpArgs false
/-! operations carried out in a round's frame, or behind a loop over a function -/
section
variable {P : Program} {F : Fence} {n : Nat} {ops : Array Oper} {Q : Exit → Act → World → Prop} {a : Act} {w w' : World} {rest : List Oper} {o : Oper}
theorem op_val (hF : ∀ f, F.fn f) (hg : o.guard = none) (hd : ∀ c, o.op ≠ .defer c) {v : Value} (h : (execOp a.eval o).run P w = .ok (.value v) w') (k : wpListIn F n P ops Q rest (a.put o.dst v) w') : wpListIn F n P ops Q (o :: rest) a w := by
  refine wpListIn_plain hg fun K hK => ⟨fun f _ => hF f, ?_⟩
  rw [Oper.semAt_eq _ _ _ hd, h]
  exact hK _ _ k
theorem op_skip (hF : ∀ f, F.fn f) (hg : o.guard = none) (hd : ∀ c, o.op ≠ .defer c) (h : (execOp a.eval o).run P w = .ok .skip w') (k : wpListIn F n P ops Q rest (a.put o.dst undef) w') : wpListIn F n P ops Q (o :: rest) a w := by
  refine wpListIn_plain hg fun K hK => ⟨fun f _ => hF f, ?_⟩
  rw [Oper.semAt_eq _ _ _ hd, h]
  exact hK _ _ k
theorem op_call {f : FuncId} {args : Array Value} {v : Value} {R : World → Prop} (hF : ∀ f, F.fn f) (h1 : F.depth = none) (hg : o.guard = none) (hd : ∀ c, o.op ≠ .defer c) (h : (execOp a.eval o).run P w = .ok (.enter f args) w)
    (hc : CallsIn F (n - 1) P f args w (fun e w' => e = .returned v ∧ R w')) (k : ∀ w', R w' → wpListIn F n P ops Q rest (a.put o.dst v) w') : wpListIn F n P ops Q (o :: rest) a w := by
  refine wpListIn_plain hg fun K hK => ⟨fun f _ => hF f, ?_⟩
  rw [Oper.semAt_eq _ _ _ hd, h]
  refine ⟨fun h => (by rw [h1] at h; cases h), hc.mono ?_⟩
  rintro e w' ⟨rfl, hr⟩
  exact hK _ _ (k w' hr)
end
theorem getD_put (a : Act) (d t : Nat) (v : Value) (h : d < a.tmps.size) : (a.put (some d) v).tmps.getD t undef = if d = t then v else a.tmps.getD t undef := by
  unfold Act.put
  simp only [Array.getD_eq_getD_getElem?, Array.getElem?_setIfInBounds]
  by_cases e : d = t
  · subst e
    rw [if_pos rfl, if_pos rfl, if_pos h]; rfl
  · rw [if_neg e, if_neg e]
theorem wide_fn (f : FuncId) : Fence.wide.fn f := trivial
theorem grown_of_chg {w w' : World} (h : Chg [] w w') : w.grownBy w' none := ⟨h.os, h.tape, h.output, h.size, fun k hk _ => h.block k hk (by simp)⟩
theorem Chg.drop {b : Nat} {t : TypeId} {cs : Array Value} {w w' : World} (h : Chg [b] w w') (h0 : Hc w b t cs) (h1 : Hc w' b t cs) : Chg [] w w' :=
  ⟨h.os, h.tape, h.output, h.size, fun k hk _ => by
    by_cases e : k = b
    · subst e; exact (show w'.heap[k]? = _ from h1).trans (show w.heap[k]? = _ from h0).symm
    · exact h.block k hk (by simpa using e)⟩
theorem Hc.grown {W W' : World} {row : Option Nat} {b : Nat} {t : TypeId} {cs : Array Value} (h : Hc W b t cs) (hg : W.grownBy W' row) (hr : ∀ r, row = some r → ∃ o : Obj, W.heap[r]? = some o ∧ o.isCells = false) : Hc W' b t cs := by
  have hb := hg.block b h.lt (fun e => by
    obtain ⟨o, ho, hc⟩ := hr b e.symm
    rw [show W.heap[b]? = _ from h] at ho
    cases ho
    cases hc)
  exact hb.trans h
/-! the iterator -/
noncomputable def vnN : Nat := Tryz.f151.ntmps
noncomputable def vnC : Code := Tryz.f151.body.getD .skip
noncomputable def vn0 : Code := cB 0 vnC
def qL : Code → Code
  | .seq a _ => a
  | c => c
def qR : Code → Code
  | .seq _ b => b
  | c => c
def opsR : Code → List Oper
  | .region _ ops _ => ops.toList
  | _ => []
def opN (l : List Oper) (i : Nat) : Oper := match l[i]? with
  | some o => o
  | none => { dst := none, op := .move (.tmp 0), type := 0, pos := "", after := #[], guard := none }
structure El where
  i : Int
  r : Rw
  h : smallR 80000000 r
def elR (r : Rv) (hs : smallRV 80000000 r) : List El := [⟨0, r.x, hs.x⟩, ⟨1, r.y, hs.y⟩, ⟨2, r.z, hs.z⟩]
def enR (p : El) : Array Value := #[.int .i64 p.i, vR p.r]
noncomputable def vn1 : Code := cB 1 vnC
noncomputable def vnR3 : Code := qL (qR (cI vn1))
noncomputable def vnK : Code := qR (qR (cI vn1))
theorem vnR3_eq : vnR3 = .region 3 (opsR vnR3).toArray false := by kernel_rfl
theorem vnK_eq : vnK = .cond (.tmp 20) .ret .skip := by kernel_rfl
theorem vnR3_ops : opsR vnR3 = [opN (opsR vnR3) 0, opN (opsR vnR3) 1, opN (opsR vnR3) 2, opN (opsR vnR3) 3, opN (opsR vnR3) 4] := by kernel_rfl
theorem vnO0 : (opN (opsR vnR3) 0).op = .move (.tmp 0) ∧ (opN (opsR vnR3) 0).dst = some 16 ∧ (opN (opsR vnR3) 0).guard = none := ⟨by kernel_rfl, by kernel_rfl, by kernel_rfl⟩
theorem vnO1 : (opN (opsR vnR3) 1).op = .move (.tmp 3) ∧ (opN (opsR vnR3) 1).dst = some 17 ∧ (opN (opsR vnR3) 1).guard = none := ⟨by kernel_rfl, by kernel_rfl, by kernel_rfl⟩
theorem vnO2 : (opN (opsR vnR3) 2).op = .load 26 (.tmp 4) ∧ (opN (opsR vnR3) 2).dst = some 18 ∧ (opN (opsR vnR3) 2).guard = none := ⟨by kernel_rfl, by kernel_rfl, by kernel_rfl⟩
theorem vnO3 : (opN (opsR vnR3) 3).op = .call { callee := .value (.tmp 16), args := #[.tmp 17, .tmp 18], argTypes := #[3, 26] } ∧ (opN (opsR vnR3) 3).dst = some 19 ∧ (opN (opsR vnR3) 3).guard = none := ⟨by kernel_rfl, by kernel_rfl, by kernel_rfl⟩
theorem vnO4 : (opN (opsR vnR3) 4).op = .unOp .not 4 (.tmp 19) ∧ (opN (opsR vnR3) 4).dst = some 20 ∧ (opN (opsR vnR3) 4).guard = none := ⟨by kernel_rfl, by kernel_rfl, by kernel_rfl⟩
theorem getD_look {nt : Nat} {l : Env} {a : Act} (h : St nt l a) {d : Nat} {v : Value} {g : Nat} (hm : look d l = some (v, g)) : a.eval (.tmp d) = v := h.has (d, (v, g)) (look_mem hm)
theorem put_size (a : Act) (d : Option Tmp) (v : Value) : (a.put d v).tmps.size = a.tmps.size := by
  unfold Act.put
  cases d <;> simp
theorem put_defers (a : Act) (d : Option Tmp) (v : Value) : (a.put d v).defers = a.defers := by
  unfold Act.put
  cases d <;> rfl
theorem St.put {nt : Nat} {l : Env} {a : Act} (h : St nt l a) (d : Nat) (v : Value) (hd : d < nt) (hn : (l.all fun p => !Nat.beq p.1 d) = true) : St nt ((d, (v, 0)) :: l) (a.put (some d) v) := by
  refine ⟨(put_defers _ _ _).trans h.defers, (put_size _ _ _).trans h.size, fun p hp => ?_⟩
  rw [getD_put a d p.1 v (by rw [h.size]; exact hd)]
  rcases List.mem_cons.1 hp with rfl | hp
  · rw [if_pos rfl]
  · have := List.all_eq_true.1 hn p hp
    simp only [Bool.not_eq_true'] at this
    rw [if_neg (fun e => by rw [← e] at this; simp at this)]
    exact h.has p hp
section
variable {P : Program} {o : Oper} {ρ : Operand → Value} {w : World}
theorem exec_move {x : Operand} (h : o.op = .move x) : (execOp ρ o).run P w = .ok (.value (ρ x)) w := by
  unfold execOp; rw [h]; rfl
theorem exec_load {t : TypeId} {x : Operand} {v : Value} (h : o.op = .load t x) (hl : (Instr.loadAt t (ρ x)).run P w = .ok v w) : (execOp ρ o).run P w = .ok (.value v) w := by
  unfold execOp; rw [h]
  simp [hl]
theorem exec_not {t : TypeId} {x : Operand} {b : Bool} (h : o.op = .unOp .not t x) (hx : ρ x = .bool b) : (execOp ρ o).run P w = .ok (.value (.bool (!b))) w := by
  unfold execOp; rw [h]
  simp only [hx]
  rfl
end
theorem load_num {W : World} {b : Nat} {r : Rw} (h : Hc W b 26 (rwC r)) : (Instr.loadAt 26 (.pointer (some ⟨b, 0, none⟩))).run Tryz.prog W = .ok (vR r) W :=
  vmS_pure Tryz.prog 0 b 26 (Instr.loadAt 26 (.pointer (some ⟨b, 0, none⟩))) (rwC r) (vR r) (rwC r) (List.replicate 10 b) kr W (fun _ => h) (fun y hy => List.eq_of_mem_replicate hy)
theorem vn_tail {l m nb : Nat} {q : Rv} {x : Rw} {i : Int} {a2 : Act} {w2 : World} {Q : Exit → Act → World → Prop} {T Fl : World → Prop} (h0 : 0 ≤ i) (h3 : i < 3)
    (hS2 : St vnN [(0, (.func (.yield l) #[] #[], 0)), (11, (.agg (rwV q), 0)), (12, (.int .i64 i, 0)), (3, (.int .i64 i, 0)), (4, (.pointer (some ⟨nb, 0, none⟩), 13))] a2) (hB : Hc w2 nb 26 (rwC x))
    (hY : YieldAt Fence.wide m Tryz.prog l #[.int .i64 i, vR x] w2 fun e W' => (e = .returned (.bool true) ∧ T W') ∨ (e = .returned (.bool false) ∧ Fl W'))
    (hs : ∀ A B, T A → Chg [] A B → T B)
    (hT : ∀ a' W', St vnN [(0, (.func (.yield l) #[] #[], 0)), (11, (.agg (rwV q), 0)), (12, (.int .i64 (i + 1), 0))] a' → T W' → Q .normal a' W')
    (hF : ∀ a' W', a'.defers = [] → Fl W' → Q .ret a' W') :
    (Code.seq vnR3 vnK).wp Tryz.prog (Exit.inBlock 1 (Exit.then (fun a w => wpL Tryz.prog (cPost 1 (cI (cI vn0))) Q a w) Q)) a2 w2 := by
  obtain ⟨fn, tmps, asg, bdy, hy, hR⟩ := hY
  refine wp_seq ?_
  rw [vnR3_eq]
  refine (wpIn_wide (n := m + 1)).1 (wpIn_region_list ?_)
  refine Eq.mpr (congrArg (fun L => wpListIn _ _ _ (opsR vnR3).toArray _ L a2 w2) (show (opsR vnR3).toArray.toList = _ from vnR3_ops)) ?_
  have no : ∀ {o : Oper} {x : Op}, o.op = x → (∀ c, x ≠ .defer c) → ∀ c, o.op ≠ .defer c := fun e h => by rw [e]; exact h
  have S3 := hS2.put 16 (.func (.yield l) #[] #[]) nle kr
  refine op_val wide_fn vnO0.2.2 (no vnO0.1 (by intro c h; cases h)) (v := .func (.yield l) #[] #[]) (w' := w2) (by rw [exec_move vnO0.1, getD_look hS2 (d := 0) rfl]) ?_
  rw [vnO0.2.1]
  generalize a2.put (some 16) _ = a3 at *
  have S4 := S3.put 17 (.int .i64 i) nle kr
  refine op_val wide_fn vnO1.2.2 (no vnO1.1 (by intro c h; cases h)) (v := .int .i64 i) (w' := w2) (by rw [exec_move vnO1.1, getD_look S3 (d := 3) rfl]) ?_
  rw [vnO1.2.1]
  generalize a3.put (some 17) _ = a4 at *
  have S5 := S4.put 18 (vR x) nle kr
  refine op_val wide_fn vnO2.2.2 (no vnO2.1 (by intro c h; cases h)) (v := vR x) (w' := w2) (exec_load vnO2.1 (by rw [getD_look S4 (d := 4) rfl]; exact load_num hB)) ?_
  rw [vnO2.2.1]
  generalize a4.put (some 18) _ = a5 at *
  refine wpListIn_plain vnO3.2.2 fun K hK => ⟨fun f _ => trivial, ?_⟩
  have hrun : (execOp a5.eval (opN (opsR vnR3) 3)).run Tryz.prog w2 = .ok (.round l fn tmps asg bdy) w2 := by
    unfold execOp
    rw [vnO3.1]
    have e16 := getD_look S5 (d := 16) rfl
    have e17 := getD_look S5 (d := 17) rfl
    have e18 := getD_look S5 (d := 18) rfl
    have em : Array.map a5.eval #[.tmp 17, .tmp 18] = #[.int .i64 i, vR x] := by rw [← e17, ← e18]; simp
    simp only [resolve, em, e16]
    generalize a5.eval = ev at *
    simp [go_sem, hy]
  rw [Oper.semAt_eq _ _ _ (no vnO3.1 (by intro c h; cases h)), hrun]
  refine ⟨fun h => (by cases h), hR.mono ?_⟩
  rintro e w3 (⟨rfl, h3⟩ | ⟨rfl, h3⟩)
  · refine hK _ _ ?_
    rw [vnO3.2.1]
    have S6 := S5.put 19 (.bool true) nle kr
    generalize a5.put (some 19) _ = a6 at *
    refine op_val wide_fn vnO4.2.2 (no vnO4.1 (by intro c h; cases h)) (v := .bool false) (w' := w3) (exec_not vnO4.1 (getD_look S6 (d := 19) rfl)) ?_
    rw [vnO4.2.1]
    have S7 := S6.put 20 (.bool false) nle kr
    generalize a6.put (some 20) _ = a7 at *
    show vnK.wp _ _ a7 w3
    rw [vnK_eq]
    refine wp_cond_false (getD_look S7 (d := 20) rfl) (wp_skip ?_)
    refine inBlock_n (then_n ?_)
    have wi : IntKind.i64.wrap (i + 1) = i + 1 := wr64 (by omega) (by omega)
    refine vm_keep (X := ⟨w3, []⟩) kr [(4, 0)] vnN (cPost 1 (cI (cI vn0))) (ne_nil kr) (fun r => [(0, (.func (.yield l) #[] #[], 0)), (11, (.agg (rwV q), 0)), (12, (.int .i64 (i), 0))]) (fun r => []) 0 (fun _ => 0) ((S7.sub (l' := [(0, (.func (.yield l) #[] #[], 0)), (11, (.agg (rwV q), 0)), (12, (.int .i64 i, 0))]) (by simp))) (⟨Chg.refl _ _, fun k x h => (by cases h), fun k k' x x' h => by cases h⟩) (fun r hr => ⟨rfl, rfl⟩) (keysLt_all kr) [] [lE .i64 (((i) : Int) + ((1) : Int)) (i + 1) (wi)] (VEx.n) (fun r => [(0, (.func (.yield l) #[] #[], 0)), (11, (.agg (rwV q), 0)), (12, (.int .i64 (i + 1), 0))]) [] (fun r => []) (fun r hr => ⟨rfl, rfl⟩) (keysLt_all kr) (fun r g => by kernel_rfl) (fun r g => by kernel_rfl) ?_
    intro a8 w8 hS8 hK8 hM8
    exact hT a8 w8 hS8 (hs w3 w8 h3 hM8.below)
  · refine hK _ _ ?_
    rw [vnO3.2.1]
    have S6 := S5.put 19 (.bool false) nle kr
    generalize a5.put (some 19) _ = a6 at *
    refine op_val wide_fn vnO4.2.2 (no vnO4.1 (by intro c h; cases h)) (v := .bool true) (w' := w3) (exec_not vnO4.1 (getD_look S6 (d := 19) rfl)) ?_
    rw [vnO4.2.1]
    have S7 := S6.put 20 (.bool true) nle kr
    generalize a6.put (some 20) _ = a7 at *
    show vnK.wp _ _ a7 w3
    rw [vnK_eq]
    refine wp_cond_true (getD_look S7 (d := 20) rfl) (wp_ret ?_)
    exact hF a7 w3 S7.defers h3
theorem vn_round0 {l m : Nat} {q : Rv} {a : Act} {W : World} {Q : Exit → Act → World → Prop} {T Fl : World → Prop}
    (hS : St vnN [(0, (.func (.yield l) #[] #[], 0)), (11, (.agg (rwV q), 0)), (12, (.int .i64 0, 0))] a)
    (hY : ∀ W1, Chg [] W W1 → YieldAt Fence.wide m Tryz.prog l #[.int .i64 0, vR q.x] W1 fun e W' => (e = .returned (.bool true) ∧ T W') ∨ (e = .returned (.bool false) ∧ Fl W'))
    (hs : ∀ A B, T A → Chg [] A B → T B)
    (hT : ∀ a' W', St vnN [(0, (.func (.yield l) #[] #[], 0)), (11, (.agg (rwV q), 0)), (12, (.int .i64 (0 + 1), 0))] a' → T W' → Q .normal a' W')
    (hF : ∀ a' W', a'.defers = [] → Fl W' → Q .ret a' W') : (cI (cI vn0)).wp Tryz.prog Q a W := by
  refine wp_cut 1 kr ?_
  refine vm_keep (X := ⟨W, []⟩) kr [] vnN (cPre 1 (cI (cI vn0))) (ne_nil kr) (fun r => [(0, (.func (.yield l) #[] #[], 0)), (11, (.agg (rwV q), 0)), (12, (.int .i64 (0), 0))]) (fun r => []) 0 (fun _ => 0) (hS) (⟨Chg.refl _ _, fun k x h => (by cases h), fun k k' x x' h => by cases h⟩) (fun r hr => ⟨rfl, rfl⟩) (keysLt_all kr) [.t] [] (VEx.n) (fun r => [(0, (.func (.yield l) #[] #[], 0)), (11, (.agg (rwV q), 0)), (12, (.int .i64 (0), 0))]) [] (fun r => []) (fun r hr => ⟨rfl, rfl⟩) (keysLt_all kr) (fun r g => by kernel_rfl) (fun r g => by kernel_rfl) ?_
  intro a1 w1 hS1 hK1 hM1
  refine wp_blk 1 kr ?_
  rw [show cI (cAt 1 (cI (cI vn0))) = .seq (qL (cI vn1)) (.seq vnR3 vnK) from by kernel_rfl]
  refine wp_seq (wpL_one ?_)
  refine vm_fragL (X := ⟨W, []⟩) kr [] vnN [qL (cI vn1)] (ne_nil kr) (fun r => [(0, (.func (.yield l) #[] #[], 0)), (11, (.agg (rwV q), 0)), (12, (.int .i64 (0), 0))]) (fun r => []) 10 (fun _ => 0) (hS1) (hM1) (fun r hr => ⟨rfl, rfl⟩) (keysLt_all kr) [] [] (VEx.n) (fun r => [(0, (.func (.yield l) #[] #[], 0)), (11, (.agg (rwV q), 0)), (12, (.int .i64 (0), 0)), (3, (.int .i64 (0), 0)), (4, (.pointer (some ⟨r 12, 0, none⟩), 13))]) [] (fun r => [(12, (26, rwC q.x))]) (fun r g => by kernel_rfl) (fun r g => by kernel_rfl) ?_
  intro rn a2 w2 hr hS2 hK2 hM2
  refine then_n ?_
  exact vn_tail (nb := rn 12) (by decide) (by decide) hS2 (hM2.has 12 _ rfl).1 (hY w2 hM2.below) hs hT hF
theorem vn_round1 {l m : Nat} {q : Rv} {a : Act} {W : World} {Q : Exit → Act → World → Prop} {T Fl : World → Prop}
    (hS : St vnN [(0, (.func (.yield l) #[] #[], 0)), (11, (.agg (rwV q), 0)), (12, (.int .i64 1, 0))] a)
    (hY : ∀ W1, Chg [] W W1 → YieldAt Fence.wide m Tryz.prog l #[.int .i64 1, vR q.y] W1 fun e W' => (e = .returned (.bool true) ∧ T W') ∨ (e = .returned (.bool false) ∧ Fl W'))
    (hs : ∀ A B, T A → Chg [] A B → T B)
    (hT : ∀ a' W', St vnN [(0, (.func (.yield l) #[] #[], 0)), (11, (.agg (rwV q), 0)), (12, (.int .i64 (1 + 1), 0))] a' → T W' → Q .normal a' W')
    (hF : ∀ a' W', a'.defers = [] → Fl W' → Q .ret a' W') : (cI (cI vn0)).wp Tryz.prog Q a W := by
  refine wp_cut 1 kr ?_
  refine vm_keep (X := ⟨W, []⟩) kr [] vnN (cPre 1 (cI (cI vn0))) (ne_nil kr) (fun r => [(0, (.func (.yield l) #[] #[], 0)), (11, (.agg (rwV q), 0)), (12, (.int .i64 (1), 0))]) (fun r => []) 0 (fun _ => 0) (hS) (⟨Chg.refl _ _, fun k x h => (by cases h), fun k k' x x' h => by cases h⟩) (fun r hr => ⟨rfl, rfl⟩) (keysLt_all kr) [.t] [] (VEx.n) (fun r => [(0, (.func (.yield l) #[] #[], 0)), (11, (.agg (rwV q), 0)), (12, (.int .i64 (1), 0))]) [] (fun r => []) (fun r hr => ⟨rfl, rfl⟩) (keysLt_all kr) (fun r g => by kernel_rfl) (fun r g => by kernel_rfl) ?_
  intro a1 w1 hS1 hK1 hM1
  refine wp_blk 1 kr ?_
  rw [show cI (cAt 1 (cI (cI vn0))) = .seq (qL (cI vn1)) (.seq vnR3 vnK) from by kernel_rfl]
  refine wp_seq (wpL_one ?_)
  refine vm_fragL (X := ⟨W, []⟩) kr [] vnN [qL (cI vn1)] (ne_nil kr) (fun r => [(0, (.func (.yield l) #[] #[], 0)), (11, (.agg (rwV q), 0)), (12, (.int .i64 (1), 0))]) (fun r => []) 10 (fun _ => 0) (hS1) (hM1) (fun r hr => ⟨rfl, rfl⟩) (keysLt_all kr) [] [] (VEx.n) (fun r => [(0, (.func (.yield l) #[] #[], 0)), (11, (.agg (rwV q), 0)), (12, (.int .i64 (1), 0)), (3, (.int .i64 (1), 0)), (4, (.pointer (some ⟨r 12, 0, none⟩), 13))]) [] (fun r => [(12, (26, rwC q.y))]) (fun r g => by kernel_rfl) (fun r g => by kernel_rfl) ?_
  intro rn a2 w2 hr hS2 hK2 hM2
  refine then_n ?_
  exact vn_tail (nb := rn 12) (by decide) (by decide) hS2 (hM2.has 12 _ rfl).1 (hY w2 hM2.below) hs hT hF
theorem vn_round2 {l m : Nat} {q : Rv} {a : Act} {W : World} {Q : Exit → Act → World → Prop} {T Fl : World → Prop}
    (hS : St vnN [(0, (.func (.yield l) #[] #[], 0)), (11, (.agg (rwV q), 0)), (12, (.int .i64 2, 0))] a)
    (hY : ∀ W1, Chg [] W W1 → YieldAt Fence.wide m Tryz.prog l #[.int .i64 2, vR q.z] W1 fun e W' => (e = .returned (.bool true) ∧ T W') ∨ (e = .returned (.bool false) ∧ Fl W'))
    (hs : ∀ A B, T A → Chg [] A B → T B)
    (hT : ∀ a' W', St vnN [(0, (.func (.yield l) #[] #[], 0)), (11, (.agg (rwV q), 0)), (12, (.int .i64 (2 + 1), 0))] a' → T W' → Q .normal a' W')
    (hF : ∀ a' W', a'.defers = [] → Fl W' → Q .ret a' W') : (cI (cI vn0)).wp Tryz.prog Q a W := by
  refine wp_cut 1 kr ?_
  refine vm_keep (X := ⟨W, []⟩) kr [] vnN (cPre 1 (cI (cI vn0))) (ne_nil kr) (fun r => [(0, (.func (.yield l) #[] #[], 0)), (11, (.agg (rwV q), 0)), (12, (.int .i64 (2), 0))]) (fun r => []) 0 (fun _ => 0) (hS) (⟨Chg.refl _ _, fun k x h => (by cases h), fun k k' x x' h => by cases h⟩) (fun r hr => ⟨rfl, rfl⟩) (keysLt_all kr) [.t] [] (VEx.n) (fun r => [(0, (.func (.yield l) #[] #[], 0)), (11, (.agg (rwV q), 0)), (12, (.int .i64 (2), 0))]) [] (fun r => []) (fun r hr => ⟨rfl, rfl⟩) (keysLt_all kr) (fun r g => by kernel_rfl) (fun r g => by kernel_rfl) ?_
  intro a1 w1 hS1 hK1 hM1
  refine wp_blk 1 kr ?_
  rw [show cI (cAt 1 (cI (cI vn0))) = .seq (qL (cI vn1)) (.seq vnR3 vnK) from by kernel_rfl]
  refine wp_seq (wpL_one ?_)
  refine vm_fragL (X := ⟨W, []⟩) kr [] vnN [qL (cI vn1)] (ne_nil kr) (fun r => [(0, (.func (.yield l) #[] #[], 0)), (11, (.agg (rwV q), 0)), (12, (.int .i64 (2), 0))]) (fun r => []) 10 (fun _ => 0) (hS1) (hM1) (fun r hr => ⟨rfl, rfl⟩) (keysLt_all kr) [] [] (VEx.n) (fun r => [(0, (.func (.yield l) #[] #[], 0)), (11, (.agg (rwV q), 0)), (12, (.int .i64 (2), 0)), (3, (.int .i64 (2), 0)), (4, (.pointer (some ⟨r 12, 0, none⟩), 13))]) [] (fun r => [(12, (26, rwC q.z))]) (fun r g => by kernel_rfl) (fun r g => by kernel_rfl) ?_
  intro rn a2 w2 hr hS2 hK2 hM2
  refine then_n ?_
  exact vn_tail (nb := rn 12) (by decide) (by decide) hS2 (hM2.has 12 _ rfl).1 (hY w2 hM2.below) hs hT hF
theorem yAt_mono {F : Fence} {m : Nat} {P : Program} {l : Nat} {args : Array Value} {W : World} {R R' : Ending → World → Prop} (h : YieldAt F m P l args W R) (hr : ∀ e w, R e w → R' e w) : YieldAt F m P l args W R' := by
  obtain ⟨fn, tmps, asg, bdy, hy, hR⟩ := h
  exact ⟨fn, tmps, asg, bdy, hy, hR.mono hr⟩
theorem retNone {fn : Func} {post : Ending → World → Prop} {a : Act} {w : World} {x : Exit} (hx : x = .ret ∨ x = .normal) (h : fn.results = #[]) (hd : a.defers = []) (hp : post (.returned (.tuple #[])) w) : bodyPost Tryz.prog fn post x a w := by
  have := results_none h a.tmps Tryz.prog w
  rcases hx with rfl | rfl <;> exact ⟨hd, _, this, hp⟩
theorem vnum_seq (q : Rv) (hs : smallRV 80000000 q) (B n : Nat) (w0 : World) (hB : Hc w0 B 28 (rwV q)) : SeqStopsK Fence.wide n Tryz.prog 151 #[.pointer (some ⟨B, 0, none⟩)] enR (fun _ _ => True) (fun xs => xs = elR q hs) (fun pre => ∃ i, pre = (elR q hs).take i) 3 w0 := by
  intro l J Jx W hW hJ hJx hY h0
  refine callsIn_wide.2 ?_
  have hB' : Hc W B 28 (rwV q) := (hW.block B hB.lt).trans hB
  have js : ∀ pre A B, J pre A → Chg [] A B → J pre B := fun pre A B h hc => hJ pre A B none h (grown_of_chg hc) (fun r e => by cases e)
  refine vm_start [.func (.yield l) #[] #[], .pointer (some ⟨B, 0, none⟩)] (fn := Tryz.f151) (c := vnC) kr kr nle ?_
  intro a hS
  have hS' : St vnN [(0, (.func (.yield l) #[] #[], 0)), (1, (.pointer (some ⟨B, 0, none⟩), 1))] a := ⟨hS.defers, hS.size, fun p hp => by
    simp only [List.mem_cons, List.not_mem_nil, or_false] at hp
    rcases hp with rfl | rfl
    · exact hS.has (0, (.func (.yield l) #[] #[], 0)) (by simp [env0])
    · exact hS.has (1, (.pointer (some ⟨B, 0, none⟩), 0)) (by simp [env0])⟩
  have hM : MemOk ⟨W, [B]⟩ (fun _ => B) [(0, (28, rwV q))] W := by
    refine ⟨Chg.refl _ _, fun k x h => ?_, fun k k' x x' h h' _ => ?_⟩
    · have := look_mem h
      simp only [List.mem_singleton, Prod.mk.injEq] at this
      obtain ⟨rfl, rfl⟩ := this
      exact ⟨hB', .inr (by simp)⟩
    · have h1 := look_mem h
      have h2 := look_mem h'
      simp only [List.mem_singleton, Prod.mk.injEq] at h1 h2
      omega
  refine wp_cut 0 kr ?_
  refine vm_keep (X := ⟨W, [B]⟩) kr [] vnN (cPre 0 vnC) (ne_nil kr) (fun r => [(0, (.func (.yield l) #[] #[], 0)), (1, (.pointer (some ⟨r 0, 0, none⟩), 1))]) (fun r => [(0, (28, rwV q))]) 1 (fun _ => B) (hS') (hM) (fun r hr => ⟨by simp only [hr 0 (by omega)], rfl⟩) (keysLt_all kr) [] [] (VEx.n) (fun r => [(0, (.func (.yield l) #[] #[], 0)), (11, (.agg (rwV q), 0)), (12, (.int .i64 (0), 0))]) [] (fun r => [(0, (28, rwV q))]) (fun r hr => ⟨rfl, rfl⟩) (keysLt_all kr) (fun r g => by kernel_rfl) (fun r g => by kernel_rfl) ?_
  intro a1 w1 hS1 hK1 hM1
  have g1 : Chg [] W w1 := hM1.below.drop hB' (hM1.has 0 _ rfl).1
  have j1 := js [] W w1 h0 g1
  have e0 : cPost 0 vnC = [] := by kernel_rfl
  refine wp_for 0 kr kr (fun k a w => ∃ i : Nat, k = 3 - i ∧ i ≤ 3 ∧ St vnN [(0, (.func (.yield l) #[] #[], 0)), (11, (.agg (rwV q), 0)), (12, (.int .i64 (i : Int), 0))] a ∧ J ((elR q hs).take i) w) 3 ⟨0, rfl, by omega, hS1, j1⟩ ?_
  have hret := fun a' W' hd hp => retNone (fn := Tryz.f151) (post := fun e W' => (∃ v, e = .returned v) ∧ ((∃ xs, xs = elR q hs ∧ J xs W') ∨ (∃ pre, (∃ i, pre = (elR q hs).take i) ∧ Jx pre W'))) (a := a') (w := W') (x := .ret) (.inl rfl) kr hd hp
  rintro k a2 w2 ⟨i, rfl, hi, hS2, hJ2⟩
  rcases (show i = 0 ∨ i = 1 ∨ i = 2 ∨ i = 3 by omega) with rfl | rfl | rfl | rfl
  · exact vn_round0 (T := fun W' => J ((elR q hs).take 1) W') (Fl := fun W' => Jx ((elR q hs).take 1) W') hS2 (fun W1 hc => yAt_mono (hY [] ⟨0, q.x, hs.x⟩ W1 (js _ _ _ hJ2 hc) (by simp)) (fun e w' h => h.imp (fun h => ⟨h.1, h.2.1⟩) (fun h => h))) (js _)
      (fun a' W' hS' hT' => ⟨2, by omega, 1, rfl, by omega, hS', hT'⟩) (fun a' W' hd hF' => hret a' W' hd ⟨⟨_, rfl⟩, .inr ⟨_, ⟨1, rfl⟩, hF'⟩⟩)
  · exact vn_round1 (T := fun W' => J ((elR q hs).take 2) W') (Fl := fun W' => Jx ((elR q hs).take 2) W') hS2 (fun W1 hc => yAt_mono (hY ((elR q hs).take 1) ⟨1, q.y, hs.y⟩ W1 (js _ _ _ hJ2 hc) (by simp [elR])) (fun e w' h => h.imp (fun h => ⟨h.1, h.2.1⟩) (fun h => h))) (js _)
      (fun a' W' hS' hT' => ⟨1, by omega, 2, rfl, by omega, hS', hT'⟩) (fun a' W' hd hF' => hret a' W' hd ⟨⟨_, rfl⟩, .inr ⟨_, ⟨2, rfl⟩, hF'⟩⟩)
  · exact vn_round2 (T := fun W' => J ((elR q hs).take 3) W') (Fl := fun W' => Jx ((elR q hs).take 3) W') hS2 (fun W1 hc => yAt_mono (hY ((elR q hs).take 2) ⟨2, q.z, hs.z⟩ W1 (js _ _ _ hJ2 hc) (by simp [elR])) (fun e w' h => h.imp (fun h => ⟨h.1, h.2.1⟩) (fun h => h))) (js _)
      (fun a' W' hS' hT' => ⟨0, by omega, 3, rfl, by omega, hS', hT'⟩) (fun a' W' hd hF' => hret a' W' hd ⟨⟨_, rfl⟩, .inr ⟨_, ⟨3, rfl⟩, hF'⟩⟩)
  · refine wpL_one ?_
    refine vm_keep (X := ⟨w2, []⟩) kr [] vnN [cI (cI vn0)] (ne_nil kr) (fun r => [(0, (.func (.yield l) #[] #[], 0)), (11, (.agg (rwV q), 0)), (12, (.int .i64 ((3 : Nat) : Int), 0))]) (fun r => []) 0 (fun _ => 0) (hS2) (⟨Chg.refl _ _, fun k x h => (by cases h), fun k k' x x' h => by cases h⟩) (fun r hr => ⟨rfl, rfl⟩) (keysLt_all kr) [.f] [] (VEx.x 0) (fun r => [(0, (.func (.yield l) #[] #[], 0)), (11, (.agg (rwV q), 0)), (12, (.int .i64 ((3 : Nat) : Int), 0))]) [] (fun r => []) (fun r hr => ⟨rfl, rfl⟩) (keysLt_all kr) (fun r g => by kernel_rfl) (fun r g => by kernel_rfl) ?_
    intro a3 w3 hS3 hK3 hM3
    refine exit_n (then_n ?_)
    show wpL _ (cPost 0 vnC) _ _ _
    rw [e0]
    exact retNone (.inr rfl) kr hS3.defers ⟨⟨_, rfl⟩, .inl ⟨_, rfl, js _ _ _ hJ2 hM3.below⟩⟩
/-! the loop over it -/
noncomputable def vsC : Code := Tryz.f100.body.getD .skip
theorem vnumbers_any (q : Rv) (w : World) : Calls Tryz.prog 100 #[vRV q] w (fun e w' => ∃ n, w.heap.size ≤ n ∧ e = .returned (.func (.func 151) #[] #[.pointer (some ⟨n, 0, none⟩)]) ∧ Hc w' n 28 (rwV q) ∧ Below w.heap.size w w') := by
  refine vm_start [vRV q] (fn := Tryz.f100) (c := vsC) kr kr nle ?_
  intro a hS
  refine wpL_one ?_
  refine vm_fragL (X := ⟨w, []⟩) kr [] Tryz.f100.ntmps [vsC] (ne_nil kr) (fun r => [(0, (vRV q, 0))]) (fun r => []) 0 (fun _ => 0) (hS) (⟨Chg.refl _ _, fun k x h => (by cases h), fun k k' x x' h => by cases h⟩) (fun r hr => ⟨rfl, rfl⟩) (keysLt_all kr) [] [] (VEx.r) (fun r => [(2, (.func (.func 151) #[] #[.pointer (some ⟨r 0, 0, none⟩)], 0))]) [] (fun r => [(0, (28, rwV q))]) (fun r g => by kernel_rfl) (fun r g => by kernel_rfl) ?_
  intro rn a1 w1 hr hS1 hK1 hM1
  have h0 := (hM1.has 0 _ rfl).1
  have ho := (hM1.has 0 _ rfl).2
  refine vm_ret (fn := Tryz.f100) hS1 hM1 (.func (.func 151) #[] #[.pointer (some ⟨rn 0, 0, none⟩)]) (fun g => by kernel_rfl) ⟨rn 0, ?_, rfl, h0, hM1.below.below (Nat.le_refl _) (fun x h => by cases h)⟩
  rcases ho with h | h
  · exact h
  · cases h
noncomputable def vvN : Nat := Tryz.f37.ntmps
noncomputable def vvC : Code := Tryz.f37.body.getD .skip
noncomputable def vvRF : Code := cI (cB 0 vvC)
def rfG : Code → Operand
  | .rangeFunc g _ _ _ => g
  | _ => .tmp 0
def rfA : Code → Code
  | .rangeFunc _ _ a _ => a
  | c => c
def rfB : Code → Code
  | .rangeFunc _ _ _ b => b
  | c => c
noncomputable def vvA : Code := rfA vvRF
noncomputable def vvB : Code := rfB vvRF
theorem vvRF_eq : vvRF = .rangeFunc (.tmp 6) #[7, 8] vvA vvB := by kernel_rfl
theorem vvA_eq : vvA = .region 2 (opsR vvA).toArray false := by kernel_rfl
theorem vvA_ops : opsR vvA = [opN (opsR vvA) 0, opN (opsR vvA) 1] := by kernel_rfl
noncomputable def vvR3 : Code := qL (cI vvB)
noncomputable def vvK : Code := qR (cI vvB)
noncomputable def vvR4 : Code := qL (cT vvK)
theorem vvB_eq : vvB = .block 1 (.seq vvR3 vvK) := by kernel_rfl
theorem vvK_eq : vvK = .cond (.tmp 11) (.seq vvR4 .ret) .skip := by kernel_rfl
theorem vvR3_eq : vvR3 = .region 3 (opsR vvR3).toArray false := by kernel_rfl
theorem vvR3_ops : opsR vvR3 = [opN (opsR vvR3) 0, opN (opsR vvR3) 1, opN (opsR vvR3) 2] := by kernel_rfl
theorem vvR4_eq : vvR4 = .region 4 (opsR vvR4).toArray false := by kernel_rfl
theorem vvR4_ops : opsR vvR4 = [opN (opsR vvR4) 0] := by kernel_rfl
noncomputable def vvR5 : Code := qL ((cPost 0 vvC).headD .skip)
theorem vvP_eq : cPost 0 vvC = [.seq vvR5 .ret] := by kernel_rfl
theorem vvR5_eq : vvR5 = .region 5 (opsR vvR5).toArray false := by kernel_rfl
theorem vvR5_ops : opsR vvR5 = [opN (opsR vvR5) 0] := by kernel_rfl
theorem vvAO0 : (opN (opsR vvA) 0).op = .alloc 26 ∧ (opN (opsR vvA) 0).dst = some 4 ∧ (opN (opsR vvA) 0).guard = none := ⟨by kernel_rfl, by kernel_rfl, by kernel_rfl⟩
theorem vvAO1 : (opN (opsR vvA) 1).op = .store 26 (.tmp 4) (.tmp 8) ∧ (opN (opsR vvA) 1).dst = none ∧ (opN (opsR vvA) 1).guard = none := ⟨by kernel_rfl, by kernel_rfl, by kernel_rfl⟩
theorem vvR3O0 : (opN (opsR vvR3) 0).op = .load 26 (.tmp 4) ∧ (opN (opsR vvR3) 0).dst = some 9 ∧ (opN (opsR vvR3) 0).guard = none := ⟨by kernel_rfl, by kernel_rfl, by kernel_rfl⟩
theorem vvR3O1 : (opN (opsR vvR3) 1).op = .call { callee := .value (.func 62), args := #[.tmp 9], argTypes := #[26] } ∧ (opN (opsR vvR3) 1).dst = some 10 ∧ (opN (opsR vvR3) 1).guard = none := ⟨by kernel_rfl, by kernel_rfl, by kernel_rfl⟩
theorem vvR3O2 : (opN (opsR vvR3) 2).op = .unOp .not 4 (.tmp 10) ∧ (opN (opsR vvR3) 2).dst = some 11 ∧ (opN (opsR vvR3) 2).guard = none := ⟨by kernel_rfl, by kernel_rfl, by kernel_rfl⟩
theorem vvR4O0 : (opN (opsR vvR4) 0).op = .store 4 (.tmp 2) (.const (.bool false)) ∧ (opN (opsR vvR4) 0).dst = none ∧ (opN (opsR vvR4) 0).guard = none := ⟨by kernel_rfl, by kernel_rfl, by kernel_rfl⟩
theorem vvR5O0 : (opN (opsR vvR5) 0).op = .store 4 (.tmp 2) (.const (.bool true)) ∧ (opN (opsR vvR5) 0).dst = none ∧ (opN (opsR vvR5) 0).guard = none := ⟨by kernel_rfl, by kernel_rfl, by kernel_rfl⟩
theorem st_start (args : List Value) (nt : Nat) (hsz : args.length ≤ nt) : St nt (env0 0 args) { tmps := args.toArray ++ Array.replicate (nt - args.toArray.size) undef, defers := [] } := by
  refine ⟨rfl, by simp; omega, fun p hp => ?_⟩
  obtain ⟨i, h1, h2⟩ := env0_mem args 0 p hp
  rw [Nat.zero_add] at h1
  rw [h1]
  have hi : i < args.length := (List.getElem?_eq_some_iff.1 h2).1
  simp only [Array.getD_eq_getD_getElem?]
  rw [Array.getElem?_append_left (by simpa using hi)]
  simp [h2]
/-! what the loop needs -/
section
variable {P : Program} {o : Oper} {ρ : Operand → Value} {w w' : World}
theorem exec_alloc {t : TypeId} {v : Value} (h : o.op = .alloc t) (hr : (Instr.alloc t true (.tuple #[])).run P w = .ok v w') : (execOp ρ o).run P w = .ok (.value v) w' := by
  unfold execOp; rw [h]
  simp [hr]
theorem exec_store {t : TypeId} {x y : Operand} (h : o.op = .store t x y) (hr : (Instr.storeAt t (ρ x) (ρ y)).run P w = .ok () w') : (execOp ρ o).run P w = .ok .skip w' := by
  unfold execOp; rw [h]
  simp [hr]
end
def zer10 : Array Value := #[.bool false, .string ⟨#[]⟩, .bool false, .string ⟨#[]⟩, .bool false, .string ⟨#[]⟩, .bool false, .string ⟨#[]⟩, .bool false, .string ⟨#[]⟩]
theorem alloc_num (W : World) : ∃ W', (Instr.alloc 26 true (.tuple #[])).run Tryz.prog W = .ok (.pointer (some ⟨W.heap.size, 0, none⟩)) W' ∧ Chg [] W W' ∧ Hc W' W.heap.size 26 zer10 := by
  obtain ⟨W', h1, h2, -, h4, -⟩ := vmS_sound Tryz.prog W.heap.size 0 0 (Instr.alloc 26 true (.tuple #[])) #[] (.pointer (some ⟨W.heap.size, 0, none⟩)) #[] false (some (26, zer10)) [] kr W (fun h => absurd rfl h) (fun y h => by cases h) (fun _ => rfl)
  exact ⟨W', h1, h2, h4 _ _ rfl⟩
theorem store_num {W : World} {b : Nat} (r : Rw) (h : Hc W b 26 zer10) : ∃ W', (Instr.storeAt 26 (.pointer (some ⟨b, 0, none⟩)) (vR r)).run Tryz.prog W = .ok () W' ∧ Chg [b] W W' ∧ Hc W' b 26 (rwC r) := by
  obtain ⟨W', h1, h2, h3, -⟩ := vmS_sound Tryz.prog 0 b 26 (Instr.storeAt 26 (.pointer (some ⟨b, 0, none⟩)) (vR r)) zer10 () (rwC r) true none (List.replicate 10 b) kr W (fun _ => h) (fun y hy => List.eq_of_mem_replicate hy) (fun h => by cases h)
  exact ⟨W', h1, h2, h3 (by simp)⟩
theorem store_bool {W : World} {b : Nat} {x : Bool} (y : Bool) (h : Hc W b 4 #[.bool x]) : ∃ W', (Instr.storeAt 4 (.pointer (some ⟨b, 0, none⟩)) (.bool y)).run Tryz.prog W = .ok () W' ∧ Chg [b] W W' ∧ Hc W' b 4 #[.bool y] := by
  obtain ⟨W', h1, h2, h3, -⟩ := vmS_sound Tryz.prog 0 b 4 (Instr.storeAt 4 (.pointer (some ⟨b, 0, none⟩)) (.bool y)) #[.bool x] () #[.bool y] true none [b] kr W (fun _ => h) (fun y hy => by simpa using hy) (fun h => by cases h)
  exact ⟨W', h1, h2, h3 (by simp)⟩
theorem load_bool {W : World} {b : Nat} {x : Bool} (h : Hc W b 4 #[.bool x]) : (loadVar 4 ⟨b, 0, none⟩).run Tryz.prog W = .ok (.bool x) W :=
  vmS_pure Tryz.prog 0 b 4 (loadVar 4 ⟨b, 0, none⟩) #[.bool x] (.bool x) #[.bool x] [b] kr W (fun _ => h) (fun y hy => by simpa using hy)
theorem keeps_new {B b : Nat} {W W' : World} (h : Chg [b] W W') (hb : W.heap.size ≤ b) : KeepsFrom B W W' :=
  ⟨h.size, fun k o _ hk _ => by
    have hlt := (Array.getElem?_eq_some_iff.1 hk).1
    rw [h.block k hlt (by simp; omega)]; exact hk⟩
theorem keeps_own {B b : Nat} {t : TypeId} {cs : Array Value} {W W' : World} (h : Chg [b] W W') (hb : Hc W b t cs) : KeepsFrom B W W' :=
  ⟨h.size, fun k o _ hk ho => by
    have hlt := (Array.getElem?_eq_some_iff.1 hk).1
    by_cases e : k = b
    · subst e
      rw [show W.heap[k]? = _ from hb] at hk
      cases hk
      cases ho
    · rw [h.block k hlt (by simpa using e)]; exact hk⟩
theorem Hc.put {W : World} {b D : Nat} {t : TypeId} {cs : Array Value} {o : Obj} (h : Hc W b t cs) (o' : Obj) (hD : W.heap[D]? = some o) (ho : o.isCells = false) : Hc (W.putObj D o') b t cs := by
  refine (World.putObj_heap_other (fun e => ?_)).trans h
  subst e
  rw [show W.heap[b]? = _ from h] at hD
  cases hD
  cases ho
theorem leave_cell {n : Nat} {fn : Func} {tm : Array Value} {D b : Nat} {x : Bool} {W : World} {w : World} (hres : fn.results = #[.cell 2 4]) (ht : tm.getD 2 undef = .pointer (some ⟨b, 0, none⟩)) (hb : Hc W b 4 #[.bool x]) (hD : W.heap[D]? = some (.deferred (some []))) (hw : Below w.heap.size w W) (hDw : w.heap.size ≤ D) :
    LeavesInM Fence.wide n Tryz.prog fn tm (RetV (.bool x) w) [{ target := .collected D, args := #[] }] .returning W := by
  refine ⟨by simp, .inl ⟨_, _, rfl, run_takeDeferred hD, ?_⟩⟩
  refine ⟨.bool x, ?_, rfl, hw.grown (grownBy_putObj' W D _) hw.size (fun k e => by cases e; exact hDw)⟩
  have h2 := load_bool (hb.put (.deferred none) hD rfl)
  unfold results
  rw [hres]
  rw [Array.getD_eq_getD_getElem?] at ht
  simp [ht, asAddr, h2]
set_option maxHeartbeats 2000000 in
theorem vValid_any (q : Rv) (w : World) (hs : smallRV 80000000 q) : Calls Tryz.prog 37 #[vRV q] w (RetV (.bool (okRV q)) w) := by
  refine (callsIn_wide (n := 9)).1 (callsIn_of_wp_marks (fn := Tryz.f37) (c := vvC) kr kr trivial (wpIn_wide.2 ?_) rfl)
  have hS := st_start [vRV q] vvN nle
  change vvC.wp _ _ { tmps := [vRV q].toArray ++ Array.replicate (vvN - [vRV q].toArray.size) undef, defers := [] } w
  generalize ({ tmps := [vRV q].toArray ++ Array.replicate (vvN - [vRV q].toArray.size) undef, defers := [] } : Act) = a at *
  refine wp_cut 0 kr ?_
  have NU := fun w => vnumbers_any q w
  refine vm_fragL (X := ⟨w, []⟩) kr [] vvN (cPre 0 vvC) (ne_nil kr) (fun r => [(0, (vRV q, 0))]) (fun r => []) 0 (fun _ => 0) (hS) (⟨Chg.refl _ _, fun k x h => (by cases h), fun k k' x x' h => by cases h⟩) (fun r hr => ⟨rfl, rfl⟩) (keysLt_all kr) [] [cN 28 (rwV q) (v := fun n => .func (.func 151) #[] #[.pointer (some ⟨n, 0, none⟩)]) (fun w hc => NU w)] (VEx.n) (fun r => [(2, (.pointer (some ⟨r 1, 0, none⟩), 2)), (6, (.func (.func 151) #[] #[.pointer (some ⟨r 3, 0, none⟩)], 0))]) [] (fun r => [(1, (4, #[.bool false])), (3, (28, rwV q))]) (fun r g => by kernel_rfl) (fun r g => by kernel_rfl) ?_
  intro rn a1 w1 hr hS1 hK1 hM1
  obtain ⟨tm, df⟩ := a1
  obtain rfl : df = [] := hS1.defers
  have hb := (hM1.has 1 _ rfl).1
  have hq := (hM1.has 3 _ rfl).1
  have hw1 : Below w.heap.size w w1 := hM1.below.below (Nat.le_refl _) (fun x h => by cases h)
  have hrn : w.heap.size ≤ rn 1 := by
    rcases (hM1.has 1 _ rfl).2 with h | h
    · exact h
    · cases h
  have no : ∀ {o : Oper} {x : Op}, o.op = x → (∀ c, x ≠ .defer c) → ∀ c, o.op ≠ .defer c := fun e h => by rw [e]; exact h
  refine wp_blk 0 kr ?_
  rw [show cI (cAt 0 vvC) = vvRF from by kernel_rfl, vvRF_eq]
  refine (wpIn_wide (n := 9)).1 ?_
  refine wpIn_rangeFunc_ownH rfl (by omega) (gf := 151) (lb := #[.pointer (some ⟨rn 3, 0, none⟩)]) (getD_look hS1 (d := 6) rfl) trivial (enters_of Tryz.func151 kr rfl) (vnum_seq q hs (rn 3) _ w1 hq) (fun _ _ => trivial) (fun _ _ _ _ _ _ _ _ => trivial) (Below.refl _ _) (fun _ => rfl)
    (fun pre W => Hc W (rn 1) 4 #[.bool false] ∧ Below w.heap.size w W ∧ ∀ p, p ∈ pre → okR p.r = true)
    (fun c pre W => c = .ret ∧ Hc W (rn 1) 4 #[.bool false] ∧ Below w.heap.size w W ∧ ∃ p, p ∈ pre ∧ okR p.r = false) ?hI ?hIx ?h0
    (fun x a' W => ∃ nb, St vvN [(4, (.pointer (some ⟨nb, 0, none⟩), 0)), (2, (.pointer (some ⟨rn 1, 0, none⟩), 2))] a' ∧ Hc W nb 26 (rwC x.r)) ?hAx ?assign ?body ?done ?stop
  case hI => exact fun s A B row h hg hr => ⟨h.1.grown hg (fun r e => (hr r e).2), h.2.1.grown hg h.2.1.size (fun k e => by have := (hr k e).1; have := hw1.size; omega), h.2.2⟩
  case hIx => exact fun c s A B row h hg hr => ⟨h.1, h.2.1.grown hg (fun r e => (hr r e).2), h.2.2.1.grown hg h.2.2.1.size (fun k e => by have := (hr k e).1; have := hw1.size; omega), h.2.2.2⟩
  case h0 => exact ⟨hb, hw1, fun p hp => by cases hp⟩
  case hAx =>
    rintro x a' s A B row ⟨nb, h1, h2⟩ hg hr
    exact ⟨nb, h1, h2.grown hg (fun r e => (hr r e).2)⟩
  case assign =>
    rintro l pre x W K ⟨hb2, hw2, hp⟩ hK
    have T2 := (hS1.put 7 (.int .i64 x.i) nle kr).put 8 (vR x.r) nle kr
    refine Eq.mpr (congrArg (fun T => vvA.wpIn _ _ _ _ ({ tmps := T, defers := [] } : Act) W) (show _ = (tm.setIfInBounds 7 (.int .i64 x.i)).setIfInBounds 8 (vR x.r) from by simp [enR])) ?_
    show vvA.wpIn _ _ _ _ ((Act.put ⟨tm, []⟩ (some 7) (.int .i64 x.i)).put (some 8) (vR x.r)) W
    generalize (Act.put ⟨tm, []⟩ (some 7) (.int .i64 x.i)).put (some 8) (vR x.r) = a2 at *
    rw [vvA_eq]
    refine wpIn_region_list ?_
    refine Eq.mpr (congrArg (fun L => wpListIn _ _ _ (opsR vvA).toArray _ L a2 W) (show (opsR vvA).toArray.toList = _ from vvA_ops)) ?_
    obtain ⟨W1, r1, c1, n1⟩ := alloc_num W
    refine op_val (fun _ => trivial) vvAO0.2.2 (no vvAO0.1 (by intro c h; cases h)) (exec_alloc vvAO0.1 r1) ?_
    rw [vvAO0.2.1]
    have T3 := T2.put 4 (.pointer (some ⟨W.heap.size, 0, none⟩)) nle kr
    generalize a2.put (some 4) _ = a3 at *
    obtain ⟨W2, r2, c2, n2⟩ := store_num x.r n1
    refine op_skip (fun _ => trivial) vvAO1.2.2 (no vvAO1.1 (by intro c h; cases h)) (exec_store vvAO1.1 (by rw [getD_look T3 (d := 4) rfl, getD_look T3 (d := 8) rfl]; exact r2)) ?_
    rw [vvAO1.2.1]
    have cc : Chg [W.heap.size] W W2 := (c1.mono (by simp)).trans c2
    refine hK a3 W2 (keeps_new cc (Nat.le_refl _)) trivial ⟨hb2.chg cc (by have := hb2.lt; simp; omega), hw2.trans (cc.below (Nat.le_refl _) (fun y hy => by simp at hy; omega) |>.mono hw2.size), hp⟩ ⟨W.heap.size, T3.sub ?_, n2⟩
    intro p hp
    simp only [List.mem_cons, List.not_mem_nil, or_false] at hp ⊢
    rcases hp with rfl | rfl <;> simp
  case body =>
    rintro l pre x a' W hl hrec ⟨hb2, hw2, hp⟩ ⟨nb, hS2, hn⟩ hlen
    rw [vvB_eq]
    refine wpIn_block (wpIn_seq ?_)
    rw [vvR3_eq]
    refine wpIn_region_list ?_
    refine Eq.mpr (congrArg (fun L => wpListIn _ _ _ (opsR vvR3).toArray _ L a' W) (show (opsR vvR3).toArray.toList = _ from vvR3_ops)) ?_
    have S3 := hS2.put 9 (vR x.r) nle kr
    refine op_val (fun _ => trivial) vvR3O0.2.2 (no vvR3O0.1 (by intro c h; cases h)) (v := vR x.r) (w' := W) (exec_load vvR3O0.1 (by rw [getD_look hS2 (d := 4) rfl]; exact load_num hn)) ?_
    rw [vvR3O0.2.1]
    generalize a'.put (some 9) _ = a3 at *
    have hrun : (execOp a3.eval (opN (opsR vvR3) 1)).run Tryz.prog W = .ok (.enter 62 #[vR x.r]) W := by
      unfold execOp
      rw [vvR3O1.1]
      have e9 := getD_look S3 (d := 9) rfl
      have ef : a3.eval (.func 62) = .func (.func 62) #[] #[] := rfl
      have em : Array.map a3.eval #[.tmp 9] = #[vR x.r] := by rw [← e9]; simp
      have en := enters_of Tryz.func62 kr rfl #[vR x.r] W
      simp only [resolve, em, ef]
      generalize a3.eval = ev at *
      simp [go_sem, en]
    refine op_call (fun _ => trivial) rfl vvR3O1.2.2 (no vvR3O1.1 (by intro c h; cases h)) hrun (R := fun w' => Below W.heap.size W w') (v := .bool (okR x.r)) (CallsIn.inRound l (callsIn_wide.2 (fValid_any x.r W x.h))) ?_
    intro W3 hbl
    rw [vvR3O1.2.1]
    have c3 : Chg [] W W3 := Chg.of_below hbl []
    have b3 := hb2.chg c3 (by simp)
    have k3 : KeepsFrom w1.heap.size W W3 := ⟨c3.size, fun k o _ hk _ => by rw [c3.block k (Array.getElem?_eq_some_iff.1 hk).1 (by simp)]; exact hk⟩
    have w3 := hw2.trans (hbl.mono hw2.size)
    have S4 := S3.put 10 (.bool (okR x.r)) nle kr
    generalize a3.put (some 10) _ = a4 at *
    refine op_val (fun _ => trivial) vvR3O2.2.2 (no vvR3O2.1 (by intro c h; cases h)) (w' := W3) (exec_not vvR3O2.1 (getD_look S4 (d := 10) rfl)) ?_
    rw [vvR3O2.2.1]
    have S5 := S4.put 11 (.bool (!okR x.r)) nle kr
    generalize a4.put (some 11) _ = a5 at *
    show vvK.wpIn _ _ _ _ a5 W3
    rw [vvK_eq]
    cases hk : okR x.r with
    | true =>
      rw [hk] at S5
      refine wpIn_cond_false (getD_look S5 (d := 11) rfl) (wpIn_skip ?_)
      refine ⟨k3, trivial, b3, w3, fun p h => ?_⟩
      rcases List.mem_append.1 h with h | h
      · exact hp p h
      · rw [List.mem_singleton.1 h]; exact hk
    | false =>
      rw [hk] at S5
      refine wpIn_cond_true (getD_look S5 (d := 11) rfl) (wpIn_seq ?_)
      rw [vvR4_eq]
      refine wpIn_region_list ?_
      refine Eq.mpr (congrArg (fun L => wpListIn _ _ _ (opsR vvR4).toArray _ L a5 W3) (show (opsR vvR4).toArray.toList = _ from vvR4_ops)) ?_
      obtain ⟨W4, r4, c4, b4⟩ := store_bool false b3
      refine op_skip (fun _ => trivial) vvR4O0.2.2 (no vvR4O0.1 (by intro c h; cases h)) (exec_store vvR4O0.1 (by rw [getD_look S5 (d := 2) rfl]; exact r4)) ?_
      rw [vvR4O0.2.1]
      refine wpIn_ret ?_
      refine ⟨k3.trans (keeps_own c4 b3), rfl, b4, w3.trans (c4.below (B := w.heap.size) w3.size (fun y hy => ?_)), x, by simp, hk⟩
      rw [List.mem_singleton.1 hy]
      exact hrn
  case done =>
    rintro D xs W hD rfl ⟨hb2, hw2, hp⟩ hdef
    have hok : okRV q = true := by
      unfold okRV
      rw [hp ⟨0, q.x, hs.x⟩ (by simp [elR]), hp ⟨1, q.y, hs.y⟩ (by simp [elR]), hp ⟨2, q.z, hs.z⟩ (by simp [elR])]
      rfl
    rw [hok]
    show wpL _ (cPost 0 vvC) _ _ W
    rw [vvP_eq]
    refine wp_seq ?_
    rw [vvR5_eq]
    refine (wpIn_wide (n := 9)).1 (wpIn_region_list ?_)
    have e2 : ∀ d, (Act.mk tm d).eval (.tmp 2) = .pointer (some ⟨rn 1, 0, none⟩) := fun d => getD_look hS1 (d := 2) rfl
    refine Eq.mpr (congrArg (fun L => wpListIn _ _ _ (opsR vvR5).toArray _ L _ W) (show (opsR vvR5).toArray.toList = _ from vvR5_ops)) ?_
    obtain ⟨W4, r4, c4, b4⟩ := store_bool true hb2
    refine op_skip (fun _ => trivial) vvR5O0.2.2 (no vvR5O0.1 (by intro c h; cases h)) (exec_store vvR5O0.1 (by rw [e2]; exact r4)) ?_
    rw [vvR5O0.2.1]
    refine wp_ret ?_
    have hDlt := (Array.getElem?_eq_some_iff.1 hdef).1
    have hne : D ≠ rn 1 := fun e => by
      subst e
      rw [show W.heap[_]? = _ from hb2] at hdef
      cases hdef
    refine leave_cell kr (e2 _) b4 ((c4.block D hDlt (by simpa using hne)).trans hdef) (hw2.trans (c4.below hw2.size (fun y hy => by rw [List.mem_singleton.1 hy]; exact hrn))) (by have := hw1.size; omega)
  case stop =>
    rintro D c pre W hD ⟨i, rfl⟩ ⟨rfl, hb2, hw2, p, hp, hok⟩ hdef
    have e2 : ∀ d, (Act.mk tm d).eval (.tmp 2) = .pointer (some ⟨rn 1, 0, none⟩) := fun d => getD_look hS1 (d := 2) rfl
    have hno : okRV q = false := by
      have := List.mem_of_mem_take hp
      unfold okRV
      simp only [elR, List.mem_cons, List.not_mem_nil, or_false] at this
      rcases this with rfl | rfl | rfl <;> simp only at hok <;> rw [hok] <;> simp
    rw [hno]
    refine wpIn_ret ?_
    show LeavesInM _ _ _ _ tm _ _ _ W
    exact leave_cell kr (e2 []) hb2 hdef hw2 (by have := hw1.size; omega)
theorem vValid_no (r : Rv) (w : World) (hs : smallRV 80000000 r) (h : okRV r = false) : Calls Tryz.prog 37 #[vRV r] w (RetV (.bool false) w) := by
  have := vValid_any r w hs
  rwa [h] at this
end Go.Proofs.YtegnalgjjmpcmaaGreatDoor
