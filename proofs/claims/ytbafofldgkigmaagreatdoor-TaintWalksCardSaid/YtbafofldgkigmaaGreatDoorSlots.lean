/- Slices of structs: element by element, cell by cell. -/
import Derived.Test.YtbafofldgkigmaaGreatDoorOne
import Derived.Test.YtbafofldgkigmaaGreatDoorFour
namespace Go.Proofs.YtbafofldgkigmaaGreatDoor
open Go.RowKit
/-- The slice v holds elements of n cells each, those of L; they lie below block B. -/
def Slots (w : World) (B : Nat) (v : Value) (n : Nat) (L : List (Array Value)) : Prop :=
  ∃ A c, v = .slice A L.length c ∧ L.length ≤ c ∧ c ≤ maxLen ∧ (0 < L.length → ∃ b o, A = some ⟨b, o, none⟩ ∧ b < B ∧ ∀ j, (h : j < L.length) → ∀ i, i < n → w.cell? ⟨b, o + j * n + i, none⟩ = (L[j])[i]?)
theorem Slots.keep {w w' : World} {B n : Nat} {v : Value} {L : List (Array Value)} (h : Slots w B v n L) (hb : Below B w w') : Slots w' B v n L := by
  obtain ⟨A, c, hv, h1, h2, h3⟩ := h
  refine ⟨A, c, hv, h1, h2, fun h0 => ?_⟩
  obtain ⟨b, o, hA, hB, hc⟩ := h3 h0
  exact ⟨b, o, hA, hB, fun j hj i hi => (hb.cell (p := ⟨b, o + j * n + i, none⟩) hB).trans (hc j hj i hi)⟩
theorem Slots.more {w : World} {B B' n : Nat} {v : Value} {L : List (Array Value)} (h : Slots w B v n L) (hb : B ≤ B') : Slots w B' v n L := by
  obtain ⟨A, c, hv, h1, h2, h3⟩ := h
  refine ⟨A, c, hv, h1, h2, fun h0 => ?_⟩
  obtain ⟨b, o, hA, hB, hc⟩ := h3 h0
  exact ⟨b, o, hA, by omega, hc⟩
theorem Slots.below {w w' : World} {n : Nat} {v : Value} {L : List (Array Value)} (h : Slots w w.heap.size v n L) (hb : Below w.heap.size w w') : Slots w' w'.heap.size v n L := (h.keep hb).more hb.size
theorem Slots.cells {w : World} {B n : Nat} {v : Value} {L : List (Array Value)} (h : Slots w B v n L) (k : Nat) (hk : k < L.length) : ∃ b o c, v = .slice (some ⟨b, o, none⟩) L.length c ∧ b < B ∧ ∀ j, (h : j < L.length) → ∀ i, i < n → w.cell? ⟨b, o + j * n + i, none⟩ = (L[j])[i]? := by
  obtain ⟨A, c, rfl, _, _, h3⟩ := h
  obtain ⟨b, o, rfl, hB, hc⟩ := h3 (by omega)
  exact ⟨b, o, c, rfl, hB, hc⟩
theorem Slots.empty (w : World) (n : Nat) : Slots w w.heap.size (.slice none 0 0) n [] := ⟨none, 0, rfl, Nat.le_refl _, Nat.zero_le _, fun h => absurd h (Nat.lt_irrefl _)⟩
/-- An origin's cells. -/
def ocells (o : Gl.Origin) : Array Value := #[(Value.bool (o).opaq), (Value.int .i64 (o).id), (Value.string ⟨((o).scheme).toArray⟩), (Value.string ⟨(((o).host).name).toArray⟩), (Value.bool ((o).host).v4), (Value.int .u32 (((o).host).addr : Int)), (Value.int .i64 (o).port)]
/-- A slice of origins. -/
def Origs (w : World) (v : Value) (L : List Gl.Origin) : Prop := Slots w w.heap.size v 7 (L.map ocells)
theorem Origs.form {w : World} {v : Value} {L : List Gl.Origin} (h : Origs w v L) : ∃ A c, v = .slice A L.length c := by
  obtain ⟨A, c, hv, _⟩ := h
  exact ⟨A, c, by simpa using hv⟩
theorem Origs.below {w w' : World} {v : Value} {L : List Gl.Origin} (h : Origs w v L) (hb : Below w.heap.size w w') : Origs w' v L := Slots.below h hb
theorem Origs.cells {w : World} {v : Value} {L : List Gl.Origin} (h : Origs w v L) (k : Nat) (hk : k < L.length) : ∃ b o c, v = .slice (some ⟨b, o, none⟩) L.length c ∧ b < w.heap.size ∧ ∀ i, i < 7 → w.cell? ⟨b, o + k * 7 + i, none⟩ = (ocells L[k])[i]? := by
  obtain ⟨b, o, c, hv, hB, hc⟩ := Slots.cells h k (by simpa using hk)
  exact ⟨b, o, c, by simpa using hv, hB, fun i hi => by have := hc k (by simpa using hk) i hi; simpa using this⟩
theorem drop_consX {α : Type} {L : List α} {k : Nat} (h : k < L.length) : L.drop k = L[k] :: L.drop (k + 1) := List.drop_eq_getElem_cons h
end Go.Proofs.YtbafofldgkigmaaGreatDoor
