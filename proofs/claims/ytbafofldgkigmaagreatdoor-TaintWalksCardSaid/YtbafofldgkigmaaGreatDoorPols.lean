/- Slices of policies. -/
import Derived.Test.YtbafofldgkigmaaGreatDoorSlots
import Derived.Test.YtbafofldgkigmaaGreatDoorOne
namespace Go.Proofs.YtbafofldgkigmaaGreatDoor
open Go.RowKit
/-- A policy as data: the two slices' cells, and the texts that they hold. -/
structure Gl.Pol where
  has : Bool
  va : Value
  box : Bool
  vb : Value
  anc : List (List UInt8)
  boxes : List (List UInt8)
def pcells (p : Gl.Pol) : Array Value := #[.bool p.has, p.va, .bool p.box, p.vb]
def Pols (w : World) (v : Value) (Ps : List Gl.Pol) : Prop :=
  Slots w w.heap.size v 4 (Ps.map pcells) ∧ ∀ p ∈ Ps, Strs w w.heap.size p.va p.anc ∧ Strs w w.heap.size p.vb p.boxes
theorem Pols.form {w : World} {v : Value} {Ps : List Gl.Pol} (h : Pols w v Ps) : ∃ A c, v = .slice A Ps.length c := by
  obtain ⟨⟨A, c, hv, _⟩, _⟩ := h
  exact ⟨A, c, by simpa using hv⟩
theorem Pols.below {w w' : World} {v : Value} {Ps : List Gl.Pol} (h : Pols w v Ps) (hb : Below w.heap.size w w') : Pols w' v Ps :=
  ⟨h.1.below hb, fun p hp => ⟨((h.2 p hp).1.keep hb).more hb.size, ((h.2 p hp).2.keep hb).more hb.size⟩⟩
theorem Pols.cells {w : World} {v : Value} {Ps : List Gl.Pol} (h : Pols w v Ps) (k : Nat) (hk : k < Ps.length) : ∃ b o c, v = .slice (some ⟨b, o, none⟩) Ps.length c ∧ b < w.heap.size ∧ ∀ i, i < 4 → w.cell? ⟨b, o + k * 4 + i, none⟩ = (pcells Ps[k])[i]? := by
  obtain ⟨b, o, c, hv, hB, hc⟩ := Slots.cells h.1 k (by simpa using hk)
  exact ⟨b, o, c, by simpa using hv, hB, fun i hi => by have := hc k (by simpa using hk) i hi; simpa using this⟩
/-- A slice of integers. -/
def Ints (w : World) (v : Value) (L : List Int) : Prop := Slots w w.heap.size v 1 (L.map fun x => #[.int .i64 x])
theorem Ints.form {w : World} {v : Value} {L : List Int} (h : Ints w v L) : ∃ A c, v = .slice A L.length c := by
  obtain ⟨A, c, hv, _⟩ := h
  exact ⟨A, c, by simpa using hv⟩
theorem Ints.below {w w' : World} {v : Value} {L : List Int} (h : Ints w v L) (hb : Below w.heap.size w w') : Ints w' v L := Slots.below h hb
theorem Ints.cells {w : World} {v : Value} {L : List Int} (h : Ints w v L) (k : Nat) (hk : k < L.length) : ∃ b o c, v = .slice (some ⟨b, o, none⟩) L.length c ∧ b < w.heap.size ∧ ∀ j, (h : j < L.length) → w.cell? ⟨b, o + j, none⟩ = some (.int .i64 L[j]) := by
  obtain ⟨b, o, c, hv, hB, hc⟩ := Slots.cells h k (by simpa using hk)
  refine ⟨b, o, c, by simpa using hv, hB, fun j hj => ?_⟩
  have := hc j (by simpa using hj) 0 (by decide)
  simpa using this
end Go.Proofs.YtbafofldgkigmaaGreatDoor
