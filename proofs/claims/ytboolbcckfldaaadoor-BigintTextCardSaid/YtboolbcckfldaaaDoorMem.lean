/- Slices of machine words in memory: what a slice reads as, what a block of the call's own holds, and how both stay. No function of the program. -/
import Derived.Test.YtboolbcckfldaaaDoorProg
import Derived.Test.YtboolbcckfldaaaDoorNum
import Derived.WalkKit
import Derived.WalkSpells
import Derived.WalkLawsBesides
import Derived.Lib.Hide
import Derived.KernelRfl
import Derived.Deep.Draws
import Derived.StillTailTactics
namespace Go.Proofs.YtboolbcckfldaaaDoor
open Go.RowKit

/-- the slice at A reads as the numbers xs of kind k -/
def RdAt (w : World) (k : IntKind) (A : Option Addr) (xs : List Nat) : Prop :=
  ∀ i, i < xs.length → ∃ b o, A = some ⟨b, o, none⟩ ∧ w.cell? ⟨b, o + i, none⟩ = some (.int k (gd xs i : Nat))

/-- the cells of a block that holds numbers of kind k -/
def arr (k : IntKind) (xs : List Nat) : Array Value := (xs.map fun x : Nat => Value.int k (x : Int)).toArray

/-- the block b holds just these numbers, and may be written -/
def Blk (w : World) (k : IntKind) (t : TypeId) (b : Nat) (xs : List Nat) : Prop := w.heap[b]? = some (.cells (arr k xs) t (0, 0))

theorem lt_of_cell {w : World} {p : Addr} {v : Value} (h : w.cell? p = some v) : p.block < w.heap.size := by
  rcases Nat.lt_or_ge p.block w.heap.size with h' | h'
  · exact h'
  · simp [World.cell?, Array.getElem?_eq_none h'] at h

theorem below_cell {B : Nat} {w w' : World} (hb : Below B w w') {p : Addr} {v : Value} (h : w.cell? p = some v) (hp : p.block < B) : w'.cell? p = some v := by rw [hb.cell hp]; exact h

theorem RdAt.below {w w' : World} {k : IntKind} {A : Option Addr} {xs : List Nat} (h : RdAt w k A xs) (hb : Below w.heap.size w w') : RdAt w' k A xs := fun i hi => by
  obtain ⟨b, o, e, hc⟩ := h i hi
  exact ⟨b, o, e, below_cell hb hc (lt_of_cell hc)⟩

theorem RdAt.nil (w : World) (k : IntKind) (A : Option Addr) : RdAt w k A [] := fun i hi => absurd hi (by simp)

theorem RdAt.take {w : World} {k : IntKind} {A : Option Addr} {xs : List Nat} (h : RdAt w k A xs) (n : Nat) : RdAt w k A (xs.take n) := fun i hi => by
  rw [List.length_take] at hi
  obtain ⟨b, o, e, hc⟩ := h i (by omega)
  refine ⟨b, o, e, ?_⟩
  rw [hc, gd_take (by omega)]

theorem RdAt.trimL {w : World} {k : IntKind} {A : Option Addr} {xs : List Nat} (h : RdAt w k A xs) : RdAt w k A (trimL xs) := by
  rw [trimL_take]; exact h.take _

theorem arr_size (k : IntKind) (xs : List Nat) : (arr k xs).size = xs.length := by simp [arr]
theorem arr_get (k : IntKind) (xs : List Nat) (i : Nat) (h : i < xs.length) : (arr k xs)[i]? = some (.int k (gd xs i : Nat)) := by
  simp [arr, gd_get h, List.getElem?_eq_getElem h]
theorem arr_set (k : IntKind) (xs : List Nat) (i x : Nat) : (arr k xs).setIfInBounds i (.int k (x : Nat)) = arr k (xs.set i x) := by
  simp only [arr, List.setIfInBounds_toArray, List.map_set]

theorem Blk.cell {w : World} {k : IntKind} {t : TypeId} {b : Nat} {xs : List Nat} (h : Blk w k t b xs) {i : Nat} (hi : i < xs.length) : w.cell? ⟨b, i, none⟩ = some (.int k (gd xs i : Nat)) := by
  unfold Blk at h
  simp only [World.cell?, h, Option.isSome_none]
  exact arr_get k xs i hi
theorem Blk.free {w : World} {k : IntKind} {t : TypeId} {b : Nat} {xs : List Nat} (h : Blk w k t b xs) (i : Nat) : w.frozen? ⟨b, i, none⟩ = false := by
  unfold Blk at h
  simp [World.frozen?, h]
theorem Blk.lt {w : World} {k : IntKind} {t : TypeId} {b : Nat} {xs : List Nat} (h : Blk w k t b xs) : b < w.heap.size := lt_of_block h
theorem Blk.set {w : World} {k : IntKind} {t : TypeId} {b : Nat} {xs : List Nat} (h : Blk w k t b xs) (i x : Nat) : Blk (w.setCell ⟨b, i, none⟩ (.int k (x : Nat))) k t b (xs.set i x) := by
  have hlt := h.lt
  unfold Blk at h ⊢
  have h' : w.heap[b] = .cells (arr k xs) t (0, 0) := by simpa [Array.getElem?_eq_getElem hlt] using h
  show (w.heap.modify b _)[b]? = _
  rw [Array.getElem?_eq_getElem (by simpa using hlt), Array.getElem_modify_self, h']
  simp [arr_set]
theorem Blk.rd {w : World} {k : IntKind} {t : TypeId} {b : Nat} {xs : List Nat} (h : Blk w k t b xs) : RdAt w k (some ⟨b, 0, none⟩) xs := fun i hi => ⟨b, 0, rfl, by rw [Nat.zero_add]; exact h.cell hi⟩
theorem Blk.below {B : Nat} {w w' : World} {k : IntKind} {t : TypeId} {b : Nat} {xs : List Nat} (h : Blk w k t b xs) (hb : Below B w w') (hB : b < B) : Blk w' k t b xs := by
  unfold Blk at h ⊢; rw [hb.block b hB]; exact h
theorem Blk.alloc {w : World} {k : IntKind} {t : TypeId} {b : Nat} {xs : List Nat} (h : Blk w k t b xs) (o : Obj) : Blk (w.alloc o) k t b xs := by
  have := h.lt
  unfold Blk at h ⊢; rw [Below.heap_alloc _ _ _ this]; exact h
theorem Blk.far {w : World} {k : IntKind} {t : TypeId} {b : Nat} {xs : List Nat} (h : Blk w k t b xs) {p : Addr} (hp : b ≠ p.block) (v : Value) : Blk (w.setCell p v) k t b xs := by
  unfold Blk at h ⊢; rw [Below.heap_setCell _ _ _ _ hp]; exact h
theorem Blk.drew {w : World} {k : IntKind} {t : TypeId} {b : Nat} {xs : List Nat} (h : Blk w k t b xs) : Blk w.drew k t b xs := h
theorem below_drewN {B : Nat} {a w : World} (h : Below B a w) (n : Nat) : Below B a (w.drewN n) := ⟨h.os, h.tape, h.output, h.size, h.block⟩
theorem RdAt.drew {w : World} {k : IntKind} {A : Option Addr} {xs : List Nat} (h : RdAt w k A xs) : RdAt w.drew k A xs := h
theorem RdAt.drewN {w : World} {k : IntKind} {A : Option Addr} {xs : List Nat} (h : RdAt w k A xs) (n : Nat) : RdAt (w.drewN n) k A xs := h
theorem Blk.drewN {w : World} {k : IntKind} {t : TypeId} {b : Nat} {xs : List Nat} (h : Blk w k t b xs) (n : Nat) : Blk (w.drewN n) k t b xs := by
  unfold Blk at h ⊢; simpa using h

theorem madeCells_arr (k : IntKind) (n : Nat) : madeCells #[.int k 0] n = arr k (List.replicate n 0) := by
  apply Array.ext
  · simp [madeCells, arr]
  · intro i h1 h2
    simp [madeCells, arr, Nat.mod_one]

theorem Blk.made (w : World) (k : IntKind) (t : TypeId) (n : Nat) : Blk (w.alloc (.cells (madeCells #[.int k 0] n) t)) k t w.heap.size (List.replicate n 0) := by
  unfold Blk
  rw [madeCells_arr]
  exact heap_alloc_new w _

/-- a new block of n zeros -/
theorem make_blk {P : Program} (w : World) {t e : TypeId} {k : IntKind} {i : TypeInfo} (ht : P.underlying t = some (.slice e)) (hi : P.info? e = some i) (hz : i.zero = some (.int k 0)) (hs : i.size = 1) (hb : i.bytes ≤ 8) (n : Int) (h0 : 0 ≤ n) (hn : n ≤ 10000000000) :
    ∃ w1, (Instr.makeSlice t (.int .i64 n) (.int .i64 n)).run P w = .ok (.slice (some ⟨w.heap.size, 0, none⟩) n.toNat n.toNat) w1 ∧ Blk w1 k e w.heap.size (List.replicate n.toNat 0) ∧ Below w.heap.size w w1 ∧ w1.heap.size = w.heap.size + 1 := by
  refine ⟨_, run_make w t e i (.int k 0) ht hi hz .i64 .i64 n n h0 (Int.le_refl _) ?_ (by omega), ?_, ?_, ?_⟩
  · have h1 : (i.bytes : Int) * n ≤ 8 * n := Int.mul_le_mul_of_nonneg_right (by omega) h0
    omega
  · have := Blk.made w k e (n.toNat * i.size)
    rw [hs, Nat.mul_one] at this ⊢
    exact this
  · exact (Below.refl _ _).alloc (Nat.le_refl _) _
  · simp

theorem info_u32 : (Tryd.prog.info? 58).map (fun i => (i.zero, i.size, i.bytes)) = some (some (.int .u32 0), 1, 4) := by kernel_rfl
theorem make_nat (w : World) (n : Int) (h0 : 0 ≤ n) (hn : n ≤ 10000000000) : ∃ w1, (Instr.makeSlice 50 (.int .i64 n) (.int .i64 n)).run Tryd.prog w = .ok (.slice (some ⟨w.heap.size, 0, none⟩) n.toNat n.toNat) w1 ∧ Blk w1 .u32 58 w.heap.size (List.replicate n.toNat 0) ∧ Below w.heap.size w w1 ∧ w1.heap.size = w.heap.size + 1 := by
  obtain ⟨i, hi, hz, hs, hb⟩ := info_parts info_u32
  exact make_blk w Tryd.underlying50 hi hz hs (by omega) n h0 hn
theorem make_prod (w : World) (n : Int) (h0 : 0 ≤ n) (hn : n ≤ 10000000000) : ∃ w1, (Instr.makeSlice 82 (.int .i64 n) (.int .i64 n)).run Tryd.prog w = .ok (.slice (some ⟨w.heap.size, 0, none⟩) n.toNat n.toNat) w1 ∧ Blk w1 .u32 58 w.heap.size (List.replicate n.toNat 0) ∧ Below w.heap.size w w1 ∧ w1.heap.size = w.heap.size + 1 := by
  obtain ⟨i, hi, hz, hs, hb⟩ := info_parts info_u32
  exact make_blk w Tryd.underlying82 hi hz hs (by omega) n h0 hn

/-- a store of a whole number -/
theorem Blk.setI {w : World} {k : IntKind} {t : TypeId} {b : Nat} {xs : List Nat} (h : Blk w k t b xs) (i : Nat) {x : Int} (hx : 0 ≤ x) : Blk (w.setCell ⟨b, i, none⟩ (.int k x)) k t b (xs.set i x.toNat) := by
  obtain ⟨X, rfl⟩ := Int.eq_ofNat_of_zero_le hx
  exact h.set i X
theorem ret_int {k : IntKind} {a b : Int} (h : a = b) : Ending.returned (.int k a) = .returned (.int k b) := by rw [h]
theorem ret_slice {A : Option Addr} {n m c : Nat} (h : n = m) : Ending.returned (.slice A n c) = .returned (.slice A m c) := by rw [h]
def lenOf : Value → Nat | .slice _ n _ => n | _ => 0

/-- a region that draws its order: quiet operations first, then a tail in one order -/
theorem region_tail {P : Program} {id : Nat} {Q : Exit → Act → World → Prop} {a : Act} {w : World} {l : List Oper} (n : Nat) (hm : P.follows .mixedOrders = true) (hB : Region.lexTailB .any l.toArray n = true)
    (h : wpStill P l.toArray (w.drewN 1) (fun a' => wpList P l.toArray Q (l.drop n) a' (w.drewN 1)) (l.take n) a) : (Code.region id l.toArray true).wp P Q a w :=
  wp_region_still_tail n hm hB h

theorem wr64 {x : Int} (h : -9223372036854775808 ≤ x) (h' : x ≤ 9223372036854775807) : IntKind.i64.wrap x = x := by
  rw [IntKind.wrap_i64]; omega

theorem wrap_u32_byte (c : UInt8) : IntKind.u32.wrap (c.toNat : Int) = (c.toNat : Int) := by
  have h := c.toNat_lt
  have e : IntKind.u32.wrap (c.toNat : Int) = (c.toNat : Int) % 4294967296 := by
    simp [IntKind.wrap, IntKind.bits, IntKind.signed]
  rw [e]; omega

end Go.Proofs.YtboolbcckfldaaaDoor
