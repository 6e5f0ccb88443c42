/- Raw vectors, valid or not, and their sizes. -/
import Derived.Test.YtegnalgjjmpcmaaGreatDoorPVI
import Derived.Test.YtegnalgjjmpcmaaGreatDoorPVVec
namespace Go.Proofs.YtegnalgjjmpcmaaGreatDoor
open Go Go.RowKit
set_option linter.unusedVariables false
set_option linter.unusedSimpArgs false
structure Rv where
  x : Rw
  y : Rw
  z : Rw
def vRV (r : Rv) : Value := .agg #[.bool r.x.n0, .string r.x.s0, .bool r.x.n1, .string r.x.s1, .bool r.x.n2, .string r.x.s2, .bool r.x.n3, .string r.x.s3, .bool r.x.n4, .string r.x.s4, .bool r.y.n0, .string r.y.s0, .bool r.y.n1, .string r.y.s1, .bool r.y.n2, .string r.y.s2, .bool r.y.n3, .string r.y.s3, .bool r.y.n4, .string r.y.s4, .bool r.z.n0, .string r.z.s0, .bool r.z.n1, .string r.z.s1, .bool r.z.n2, .string r.z.s2, .bool r.z.n3, .string r.z.s3, .bool r.z.n4, .string r.z.s4]
def vV (u : V3) : Value := .agg #[.bool (sg u.x.c0), .string (mg u.x.c0), .bool (sg u.x.c1), .string (mg u.x.c1), .bool (sg u.x.c2), .string (mg u.x.c2), .bool (sg u.x.c3), .string (mg u.x.c3), .bool (sg u.x.d), .string (mg u.x.d), .bool (sg u.y.c0), .string (mg u.y.c0), .bool (sg u.y.c1), .string (mg u.y.c1), .bool (sg u.y.c2), .string (mg u.y.c2), .bool (sg u.y.c3), .string (mg u.y.c3), .bool (sg u.y.d), .string (mg u.y.d), .bool (sg u.z.c0), .string (mg u.z.c0), .bool (sg u.z.c1), .string (mg u.z.c1), .bool (sg u.z.c2), .string (mg u.z.c2), .bool (sg u.z.c3), .string (mg u.z.c3), .bool (sg u.z.d), .string (mg u.z.d)]
def rwV (r : Rv) : Array Value := #[.bool r.x.n0, .string r.x.s0, .bool r.x.n1, .string r.x.s1, .bool r.x.n2, .string r.x.s2, .bool r.x.n3, .string r.x.s3, .bool r.x.n4, .string r.x.s4, .bool r.y.n0, .string r.y.s0, .bool r.y.n1, .string r.y.s1, .bool r.y.n2, .string r.y.s2, .bool r.y.n3, .string r.y.s3, .bool r.y.n4, .string r.y.s4, .bool r.z.n0, .string r.z.s0, .bool r.z.n1, .string r.z.s1, .bool r.z.n2, .string r.z.s2, .bool r.z.n3, .string r.z.s3, .bool r.z.n4, .string r.z.s4]
def okRV (r : Rv) : Bool := okR r.x && okR r.y && okR r.z
structure smallRV (k : Nat) (r : Rv) : Prop where
  x : smallR k r.x
  y : smallR k r.y
  z : smallR k r.z
structure BNV (k : Nat) (u : V3) : Prop where
  x : BN k u.x
  y : BN k u.y
  z : BN k u.z
theorem BNV.mono {a b : Nat} {u : V3} (h : BNV a u) (hab : a ≤ b) : BNV b u := ⟨h.x.mono hab, h.y.mono hab, h.z.mono hab⟩
theorem smallR_le {a b : Nat} {r : Rw} (h : smallR a r) (hab : a ≤ b) : smallR b r := by
  obtain ⟨h0, h1, h2, h3, h4⟩ := h
  exact ⟨by omega, by omega, by omega, by omega, by omega⟩
theorem smallRV.mono {a b : Nat} {r : Rv} (h : smallRV a r) (hab : a ≤ b) : smallRV b r := ⟨smallR_le h.x hab, smallR_le h.y hab, smallR_le h.z hab⟩
end Go.Proofs.YtegnalgjjmpcmaaGreatDoor
