/- The two Text functions. -/
import Derived.Test.YtbafofldgkigmaaGreatDoorTwo
import Derived.Test.YtbafofldgkigmaaGreatDoorOne
namespace Go.Proofs.YtbafofldgkigmaaGreatDoor
open Go.RowKit
attribute [local irreducible] Calls

theorem hostText_len (h : Gl.Host) (ha : h.addr < 4294967296) : (Gl.hostText h).length ≤ h.name.length + 100 := by
  cases hv : h.v4 with
  | true =>
    rw [hostText_v4 h hv]
    have := fourTo_len h.addr 4 ha (by omega)
    omega
  | false =>
    have : Gl.hostText h = h.name := by simp [Gl.hostText, hv]
    rw [this]; omega

end Go.Proofs.YtbafofldgkigmaaGreatDoor
