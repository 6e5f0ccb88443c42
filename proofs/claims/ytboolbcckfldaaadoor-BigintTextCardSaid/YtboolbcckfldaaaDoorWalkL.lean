/- Integers: validity, and a number with a sign. -/
import Derived.Test.YtboolbcckfldaaaDoorWalkK
import Derived.Deep.RegionHeld3
namespace Go.Proofs.YtboolbcckfldaaaDoor
open Go.RowKit
set_option linter.unusedVariables false
set_option linter.unusedSimpArgs false

/-- an integer as a value -/
abbrev vI (z : Int) : Value := .agg #[.bool (sg z), .string (mg z)]

def RetB (b : Bool) (w : World) (e : Ending) (w' : World) : Prop := e = .returned (.bool b) ∧ Below w.heap.size w w'
def RetI (z : Int) (w : World) (e : Ending) (w' : World) : Prop := e = .returned (vI z) ∧ Below w.heap.size w w'

theorem ret_bool {a b : Bool} (h : a = b) : Ending.returned (.bool a) = .returned (.bool b) := by rw [h]
theorem ret_vI {b c : Bool} {s t : ByteArray} (h : b = c) (h' : s = t) : Ending.returned (.agg #[.bool b, .string s]) = .returned (.agg #[.bool c, .string t]) := by rw [h, h']
theorem bcell {W w1 : World} (hb : Below W.heap.size W w1) : (∀ b o, b < W.heap.size → w1.cell? ⟨b, o, none⟩ = W.cell? ⟨b, o, none⟩) ∧ (∀ b o, b < W.heap.size → w1.frozen? ⟨b, o, none⟩ = W.frozen? ⟨b, o, none⟩) :=
  ⟨fun b o h => hb.cell (p := ⟨b, o, none⟩) h, fun b o h => hb.frozen (p := ⟨b, o, none⟩) h⟩
theorem byte_ne (c : UInt8) : ((c.toNat : Int) != 0) = (c != 0) := by
  rw [Bool.eq_iff_iff, bne_iff_ne, bne_iff_ne]
  constructor
  · intro h e; subst e; exact h rfl
  · intro h e; exact h (UInt8.toNat_inj.1 (by rw [show (0 : UInt8).toNat = 0 from rfl]; omega))

set_option maxHeartbeats 400000 in
set_option maxRecDepth 100000 in
theorem Valid_any (n : Bool) (s : ByteArray) (w : World) :
    Calls Tryd.prog 36 #[.agg #[.bool n, .string s]] w (RetB (vld n s) w) := by
  by_cases h0 : s.size = 0
  · obtain ⟨e1, e2⟩ := str_empty h0
    have hv : Hid (vld n s = !n) := by unfold vld; rw [dif_neg (by omega)]; exact rfl
    go_enter Tryd.func36, Tryd.ntmps36
    go_wp2
    go_ret
    exact ⟨ret_bool hv.out.symm, (Below.refl _ _).alloc (Nat.le_refl _) _⟩
  · obtain ⟨e1, e2⟩ := str_full (s := s) (by omega)
    have hpos : 0 < s.size := by omega
    have hv : Hid (vld n s = (s[0] != 0)) := by unfold vld; rw [dif_pos hpos]; exact rfl
    go_enter Tryd.func36, Tryd.ntmps36
    go_wp2
    go_ret
    refine ⟨ret_bool ?_, (Below.refl _ _).alloc (Nat.le_refl _) _⟩
    rw [hv.out]
    exact byte_ne _

/-- an absolute value with a sign -/
def sgnd (b : Bool) (n : Nat) : Int := if b then -(n : Int) else n
theorem sgnd_natAbs (b : Bool) (n : Nat) : (sgnd b n).natAbs = n := by cases b <;> simp [sgnd]
theorem sg_sgnd_pos (b : Bool) {n : Nat} (h : n ≠ 0) : sg (sgnd b n) = b := by cases b <;> simp [sgnd, sg] <;> omega
theorem sg_sgnd_zero (b : Bool) : sg (sgnd b 0) = false := by cases b <;> rfl
theorem mg_sgnd (b : Bool) (n : Nat) : mg (sgnd b n) = magB n := by unfold mg; rw [sgnd_natAbs]

/-- a block of two cells (a variable of the type Int) -/
def Two (w : World) (b : Nat) (t : TypeId) (x y : Value) : Prop := w.heap[b]? = some (.cells #[x, y] t (0, 0))
theorem Two.new (w : World) (t : TypeId) (x y : Value) : Two (w.alloc (.cells #[x, y] t)) w.heap.size t x y := heap_alloc_new w _
theorem Two.below {B : Nat} {w w' : World} {b : Nat} {t : TypeId} {x y : Value} (h : Two w b t x y) (hb : Below B w w') (hB : b < B) : Two w' b t x y := by unfold Two at *; rw [hb.block b hB]; exact h
theorem Two.cells {w : World} {b : Nat} {t : TypeId} {x y : Value} (h : Two w b t x y) : w.cell? ⟨b, 0, none⟩ = some x ∧ w.cell? ⟨b, 1, none⟩ = some y := by
  unfold Two at h
  exact ⟨by simp [World.cell?, h], by simp [World.cell?, h]⟩
theorem Two.free {w : World} {b : Nat} {t : TypeId} {x y : Value} (h : Two w b t x y) : w.frozen? ⟨b, 0, none⟩ = false ∧ w.frozen? ⟨b, 1, none⟩ = false := by
  unfold Two at h
  exact ⟨by simp [World.frozen?, h], by simp [World.frozen?, h]⟩
theorem Two.lt {w : World} {b : Nat} {t : TypeId} {x y : Value} (h : Two w b t x y) : b < w.heap.size := lt_of_block h
theorem cells_set {w : World} {b : Nat} {c : Array Value} {t : TypeId} {fr : Nat × Nat} (h : w.heap[b]? = some (.cells c t fr)) (i : Nat) (u : Value) : (w.setCell ⟨b, i, none⟩ u).heap[b]? = some (.cells (c.setIfInBounds i u) t fr) := by
  have hlt := lt_of_block h
  have h' : w.heap[b] = .cells c t fr := by simpa [Array.getElem?_eq_getElem hlt] using h
  show (w.heap.modify b _)[b]? = _
  rw [Array.getElem?_eq_getElem (by simpa using hlt), Array.getElem_modify_self, h']
  simp
theorem Two.set {w : World} {b : Nat} {t : TypeId} {x y : Value} (h : Two w b t x y) (u v : Value) : Two ((w.setCell ⟨b, 0, none⟩ u).setCell ⟨b, 1, none⟩ v) b t u v := cells_set (cells_set h 0 u) 1 v
theorem Two.read {w : World} {b : Nat} {t : TypeId} {x y : Value} (h : Two w b t x y) (u v : Value) : (w.setCell ⟨b, 0, none⟩ u).cell? ⟨b, 0, none⟩ = some u ∧ ((w.setCell ⟨b, 0, none⟩ u).setCell ⟨b, 1, none⟩ v).cell? ⟨b, 1, none⟩ = some v := by
  have h0 := cells_set h 0 u
  exact ⟨by simp [World.cell?, h0], (h.set u v).cells.2⟩
theorem Two.far {w : World} {b : Nat} {t : TypeId} {x y : Value} (h : Two w b t x y) {p : Addr} (hp : b ≠ p.block) (v : Value) : Two (w.setCell p v) b t x y := by
  unfold Two at *; rw [Below.heap_setCell _ _ _ _ hp]; exact h
theorem Two.alloc {w : World} {b : Nat} {t : TypeId} {x y : Value} (h : Two w b t x y) (o : Obj) : Two (w.alloc o) b t x y := by
  have := h.lt
  unfold Two at *; rw [Below.heap_alloc _ _ _ this]; exact h
theorem Two.drewN {w : World} {b : Nat} {t : TypeId} {x y : Value} (h : Two w b t x y) (n : Nat) : Two (w.drewN n) b t x y := h

theorem below_alloc1 {w w' : World} {o : Obj} (h : Below (w.alloc o).heap.size (w.alloc o) w') : Below w.heap.size w w' :=
  ((Below.refl _ _).alloc (Nat.le_refl _) o).trans (h.mono (by simp))

set_option maxHeartbeats 1000000 in
set_option maxRecDepth 100000 in
theorem with_any (A : Option Addr) (c n : Nat) (b : Bool) (w : World) (hx : RdAt w .u32 A (digs 4294967296 n)) (hl : (digs 4294967296 n).length ≤ 1000000000) :
    Calls Tryd.prog 38 #[.slice A (digs 4294967296 n).length c, .bool b] w (RetI (sgnd b n) w) := by
  have hx1 := hx.below ((Below.refl _ _).alloc (Nat.le_refl _) (.cells #[.bool false, .string ⟨#[]⟩] 23))
  have HX := Lib.hid hx1
  clear hx hx1
  by_cases hn : n = 0
  · have hz : (magB n).size = 0 := by rw [size_magB, hn, digs_zero]; rfl
    obtain ⟨e1, e2⟩ := str_empty hz
    have HN := Lib.hid hn
    clear hn hz
    go_enter Tryd.func38, Tryd.ntmps38
    go_wp2_with fail
    refine (mag_any A c n _ HX.out hl).mono ?_
    rintro e w' ⟨rfl, hb⟩
    obtain ⟨hc, hf⟩ := bcell hb
    have hz : w.heap.size + 1 ≤ w'.heap.size := by have := hb.size; simp at this; omega
    have HT := Lib.hid ((Two.new w 23 (.bool false) (.string ⟨#[]⟩)).below hb (by simp))
    have HB := Lib.hid (below_alloc1 hb)
    clear hb
    go_wp2_with fail
    all_goals
      obtain ⟨r0, r1⟩ := HT.out.read (.bool false) (.string (magB n))
      exact bodyPost_ret (v := .agg #[.bool false, .string (magB n)]) (by simp [results, Tryd.results38, go_sem, r0, r1]) rfl ⟨ret_vI (by rw [HN.out, sg_sgnd_zero]) (mg_sgnd _ _).symm, (HB.out.setCell (Nat.le_refl _) _).setCell (Nat.le_refl _) _⟩
  · have hz : 0 < (magB n).size := by
      rw [size_magB]
      have : digs 256 n ≠ [] := fun e => hn ((digs_nil_iff (B := 256) (by decide) n).1 e)
      exact List.length_pos_iff.2 this
    obtain ⟨e1, e2⟩ := str_full hz
    have HN := Lib.hid hn
    clear hn hz
    go_enter Tryd.func38, Tryd.ntmps38
    go_wp2_with fail
    refine (mag_any A c n _ HX.out hl).mono ?_
    rintro e w' ⟨rfl, hb⟩
    obtain ⟨hc, hf⟩ := bcell hb
    have hz : w.heap.size + 1 ≤ w'.heap.size := by have := hb.size; simp at this; omega
    have HT := Lib.hid ((Two.new w 23 (.bool false) (.string ⟨#[]⟩)).below hb (by simp))
    have HB := Lib.hid (below_alloc1 hb)
    clear hb
    cases b
    · go_wp2_with fail
      obtain ⟨r0, r1⟩ := HT.out.read (.bool false) (.string (magB n))
      exact bodyPost_ret (v := .agg #[.bool false, .string (magB n)]) (by simp [results, Tryd.results38, go_sem, r0, r1]) rfl ⟨ret_vI (by rw [sg_sgnd_pos _ HN.out]) (mg_sgnd _ _).symm, (HB.out.setCell (Nat.le_refl _) _).setCell (Nat.le_refl _) _⟩
    · go_wp2_with fail
      obtain ⟨r0, r1⟩ := HT.out.read (.bool true) (.string (magB n))
      exact bodyPost_ret (v := .agg #[.bool true, .string (magB n)]) (by simp [results, Tryd.results38, go_sem, r0, r1]) rfl ⟨ret_vI (by rw [sg_sgnd_pos _ HN.out]) (mg_sgnd _ _).symm, (HB.out.setCell (Nat.le_refl _) _).setCell (Nat.le_refl _) _⟩
end Go.Proofs.YtboolbcckfldaaaDoor
