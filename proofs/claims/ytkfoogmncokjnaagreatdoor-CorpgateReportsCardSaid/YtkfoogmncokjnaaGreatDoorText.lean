/- The two Text functions. -/
import Derived.Test.YtkfoogmncokjnaaGreatDoorTwo
import Derived.Test.YtkfoogmncokjnaaGreatDoorOne
namespace Go.Proofs.YtkfoogmncokjnaaGreatDoor
open Go.RowKit
attribute [local irreducible] Calls

theorem Blk.drew_ {w : World} {g : Nat} {t : TypeId} {cs : Array Value} (h : Blk w g t cs) : Blk w.drew g t cs := h
theorem hostText_len (h : Gl.Host) (ha : h.addr < 4294967296) : (Gl.hostText h).length ≤ h.name.length + 100 := by
  cases hv : h.v4 with
  | true =>
    rw [hostText_v4 h hv]
    have := fourTo_len h.addr 4 ha (by omega)
    omega
  | false =>
    have : Gl.hostText h = h.name := by simp [Gl.hostText, hv]
    rw [this]; omega

end Go.Proofs.YtkfoogmncokjnaaGreatDoor
