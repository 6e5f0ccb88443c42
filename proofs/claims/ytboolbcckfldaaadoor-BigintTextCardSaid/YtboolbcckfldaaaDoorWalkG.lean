/- The bytes of the program's natural numbers. -/
import Derived.Test.YtboolbcckfldaaaDoorWalkF
import Derived.Test.YtboolbcckfldaaaDoorNum
import Derived.OwnWalk
import Derived.Laws.MakeOwn
import Derived.Laws.OwnMore
import Derived.Laws.BytesArg
import Derived.Deep.RegionHeld3
import Derived.Deep.AppendLies
namespace Go.Proofs.YtboolbcckfldaaaDoor
open Go.RowKit
set_option linter.unusedVariables false
set_option linter.unusedSimpArgs false

theorem wrap_u8_mod (x : Int) : IntKind.u8.wrap x = x % 256 := by simp [IntKind.wrap, IntKind.bits, IntKind.signed]
attribute [local go_sem] wrap_u8_mod
def bvals (l : List Nat) : List Value := l.map fun b : Nat => Value.int .u8 (b : Int)

theorem info_u8 : (Tryd.prog.info? 5).map (fun i => (i.zero, i.size, i.bytes)) = some (some (.int .u8 0), 1, 1) := by kernel_rfl
theorem make_bytes (w : World) (c : Nat) (hc : c ≤ 10000000000) : ∃ w', (Instr.makeSlice 92 (.int .i64 0) (.int .i64 (c : Int))).run Tryd.prog w = .ok (.slice (some ⟨w.heap.size, 0, none⟩) 0 c) w' ∧
      w'.ownsRow w.heap.size 5 1 (.slice (some ⟨w.heap.size, 0, none⟩) 0 c) 0 [] ∧ Below w.heap.size w w' := by
  obtain ⟨i, hi, hz, hs, hb⟩ := info_parts info_u8
  obtain ⟨w', h1, h2, h3⟩ := run_make_own (P := Tryd.prog) w w.heap.size 92 5 i (.int .u8 0) 1 Tryd.underlying92 hi hz hs .i64 .i64 c (by rw [hb, Nat.one_mul]; omega) (by unfold maxLen; omega) (Nat.le_refl _)
  exact ⟨w', h1, h2, (Below.refl _ _).grown h3 (Nat.le_refl _) (fun _ h => by cases h)⟩

theorem Dig.reverse {B : Nat} {l : List Nat} (h : Dig B l) : Dig B l.reverse := fun x hx => h x (List.mem_reverse.1 hx)
theorem own_string {P : Program} {w : World} {base n : Nat} {e src dst : TypeId} {v : Value} {l : List Nat} (h : w.ownsRow base e 1 v n (bvals l)) (hd : Dig 256 l) (hs : P.underlying src = some (.slice e)) (he : P.underlying e = some (.int .u8)) (hdst : P.underlying dst = some .string) :
    (convert src dst v).run P w = .ok (.string ⟨(l.map UInt8.ofNat).toArray⟩) w := by
  have hl : l.length = n := by
    have := h.1
    simp only [bvals, List.length_map] at this; omega
  rcases h.2 with ⟨rfl, h0⟩ | ⟨g, cap, cur, rfl, h1, h2, h3⟩
  · have : l = [] := List.eq_nil_of_length_eq_zero (by omega)
    subst this
    exact run_convert_bytes_nil w src e hs he 0 0 dst hdst
  · have hc := h.cells (g := g) rfl
    have := run_convert_bytes_back (P := P) w src dst e ⟨g, 0, none⟩ cap (l.map UInt8.ofNat) hs he hdst (fun j hj => by
      rw [List.length_map] at hj
      apply hc j
      have hx := hd _ (List.getElem_mem hj)
      simp only [bvals, List.getElem?_map, List.getElem?_eq_getElem hj, Option.map_some, List.getElem_map]
      rw [UInt8.toNat_ofNat', Nat.mod_eq_of_lt hx])
    rw [List.length_map, hl] at this
    exact this
theorem dropWhile_ofNat (l : List Nat) (h : Dig 256 l) : (l.map UInt8.ofNat).dropWhile (· == 0) = (l.dropWhile (· == 0)).map UInt8.ofNat := by
  induction l with
  | nil => rfl
  | cons x l ih =>
    have hx := h.head
    simp only [List.map_cons, List.dropWhile_cons]
    by_cases h0 : x = 0
    · subst h0; simpa using ih h.tail
    · have h1 : ¬ (UInt8.ofNat x = 0) := fun e => by
        have := congrArg UInt8.toNat e
        rw [UInt8.toNat_ofNat', Nat.mod_eq_of_lt hx] at this
        exact h0 this
      simp [h0, h1]
theorem cut_le4 (xs : List Nat) (h : Dig 4294967296 xs) : cutL 0 ⟨(((le4 xs).reverse).map UInt8.ofNat).toArray⟩ = magB (val 4294967296 xs) := by
  unfold cutL magB
  rw [show (⟨(((le4 xs).reverse).map UInt8.ofNat).toArray⟩ : ByteArray).data.toList = ((le4 xs).reverse).map UInt8.ofNat from rfl]
  rw [dropWhile_ofNat _ (Dig.reverse (le4_Dig xs)), dropWhile_reverse, ← val_le4 xs h, digs_val (by decide) (le4_Dig xs)]

set_option maxHeartbeats 1000000 in
set_option maxRecDepth 100000 in
theorem mag_lists (A : Option Addr) (c : Nat) (xs : List Nat) (w : World) (hx : RdAt w .u32 A xs) (hl : xs.length ≤ 1000000000) (dx : Dig 4294967296 xs) :
    Calls Tryd.prog 63 #[.slice A xs.length c] w fun e w' => e = .returned (.string (magB (val 4294967296 xs))) ∧ Below w.heap.size w w' := by
  obtain ⟨w1, hmk, hown, hbel⟩ := make_bytes w (4 * xs.length) (by omega)
  rw [show ((4 * xs.length : Nat) : Int) = 4 * (xs.length : Int) from by omega] at hmk
  have HO := Lib.hid hown
  clear hown
  have HX := Lib.hid hx
  have HDX := Lib.hid dx
  clear hx dx
  obtain ⟨i0, hi, hz0, hz1, hz2⟩ := info_parts info_u8
  go_enter Tryd.func63, Tryd.ntmps63
  go_wp2
  go_loopw [3, 4] (fun v3 v4 wr => ∃ k : Nat, k ≤ xs.length ∧ v4 = .int .i64 ((k : Int) - 1) ∧ Hid (wr.ownsRow w.heap.size 5 1 v3 (4 * (xs.length - k)) (bvals (le4 (xs.drop k)).reverse)) ∧ Below w.heap.size w wr) (fun _ v4 _ => (intOf v4 + 1).toNat)
  case atStart =>
    refine ⟨xs.length, Nat.le_refl _, rfl, ?_, hbel⟩
    rw [Nat.sub_self, List.drop_length]; exact HO
  case round =>
    obtain ⟨k, hk, rfl, hown, hbl⟩ := hrel
    clear hmk HO hbel
    rcases Nat.eq_zero_or_pos k with rfl | hkp
    · rw [show (((0 : Nat) : Int) - 1) = -1 from rfl]
      have hcv := own_string hown.out (Dig.reverse (le4_Dig _)) Tryd.underlying92 Tryd.underlying5 Tryd.underlying9
      have hss : (⟨(((le4 (xs.drop 0)).reverse).map UInt8.ofNat).toArray⟩ : ByteArray).size ≤ 9000000000000 := by
        have : (⟨(((le4 (xs.drop 0)).reverse).map UInt8.ofNat).toArray⟩ : ByteArray).size = (((le4 (xs.drop 0)).reverse).map UInt8.ofNat).length := rfl
        rw [this, List.length_map, List.length_reverse, le4_length, List.drop_zero]; omega
      have hfin := cut_le4 xs HDX.out
      rw [List.drop_zero] at hcv hss
      generalize hS : (⟨(((le4 xs).reverse).map UInt8.ofNat).toArray⟩ : ByteArray) = S at *
      have HF := Lib.hid hfin
      clear hfin hS
      go_wp2_with (go_at_call 81; refine (trimLeft_any S 0 _ hss (by decide)).mono ?_; rintro e w' ⟨rfl, rfl⟩)
      go_ret
      exact ⟨ret_string HF.out, hbl⟩
    · obtain ⟨m, rfl⟩ : ∃ m, k = m + 1 := ⟨k - 1, by omega⟩
      rw [show (((m + 1 : Nat) : Int) - 1) = (m : Int) from by omega]
      obtain ⟨b, o, rfl, hcl⟩ := HX.out m (by omega)
      have hcl' := below_cell hbl hcl (lt_of_cell hcl)
      have hg1 := HDX.out.gd (by decide) m
      have j1 : (m : Int) < (xs.length : Int) := by omega
      go_wp2_with fail
      have hbw : b < wr.heap.size := lt_of_cell hcl'
      have ag : u3.ownBlock ≠ some b := fun e => by
        have h1 := (hown.out.lt b e).1
        have h2 := lt_of_cell hcl
        simp at h2; omega
      have hsz := hbl.size
      have hown' := hown.out
      clear hcl
      go_region_held3 (fun w' => w'.cell? ⟨b, o + m, none⟩ = some (.int .u32 ((gd xs m : Nat) : Int)))
        (first
          | go_keep
          | (rw [hgrow.cell_far _ (by simp; omega) (Ne.symm ag)]; assumption))
        ((refine step_append_lies _ (by rfl) _ _ _ (by rfl) w.heap.size 5 i0 _ 1 1 Tryd.underlying92 hi hz0 hz1 hz2 rfl (by omega) u3 _ _ (by rfl) ((hown'.alloc _).drew)
            ⟨wr.heap.size, 0, none⟩ 4 4 [.int .u8 (((gd xs m : Nat) : Int) / 16777216 % 256), .int .u8 (((gd xs m : Nat) : Int) / 65536 % 256), .int .u8 (((gd xs m : Nat) : Int) / 256 % 256), .int .u8 (((gd xs m : Nat) : Int) % 256)] (by rfl) (by rfl) (World.news_of_block (cs := #[.int .u8 (((gd xs m : Nat) : Int) / 16777216 % 256), .int .u8 (((gd xs m : Nat) : Int) / 65536 % 256), .int .u8 (((gd xs m : Nat) : Int) / 256 % 256), .int .u8 (((gd xs m : Nat) : Int) % 256)]) (t := 5) (fr := (0, 0)) (heap_alloc_new wr _)) (by simp [Value.oneCell'])
            (by omega) (by unfold maxLen; omega) (by omega) (by simp; omega) (wr.heap.size + 1) (by simp) ?_; intro gg cap w1 hown1 hgrow hat hlt))
      have hbl' : Below w.heap.size w w1 := ((below_drewN hbl 1).alloc (by simpa using hsz) _).grown hgrow (by simp; omega) (fun k h => (hown.out.lt k h).1)
      have HO1 := Lib.hid hown1
      clear hown1 hgrow hat hlt hcl' hown hbl hown'
      go_wp2
      go_roundw
      case rel =>
        refine ⟨m, by omega, rfl, Lib.hid ?_, hbl'⟩
        have := HO1.out
        rw [show 4 * (xs.length - m) = 4 * (xs.length - (m + 1)) + 4 from by omega, le4_drop xs m (by omega)]
        simp only [bvals, List.map_append, List.map_cons, List.map_nil] at this ⊢
        simp only [Int.natCast_emod, Int.natCast_ediv, Int.cast_ofNat_Int] at this ⊢
        exact this
      case measure => simp [intOf]

theorem mag_any (A : Option Addr) (c n : Nat) (w : World) (hx : RdAt w .u32 A (digs 4294967296 n)) (hl : (digs 4294967296 n).length ≤ 1000000000) :
    Calls Tryd.prog 63 #[.slice A (digs 4294967296 n).length c] w fun e w' => e = .returned (.string (magB n)) ∧ Below w.heap.size w w' := by
  have := mag_lists A c _ w hx hl (digs_Dig (by decide) n)
  rwa [val_digs (by decide)] at this
end Go.Proofs.YtboolbcckfldaaaDoor
