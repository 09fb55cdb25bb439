/- awake of glacislaw04: the calls at the head of its statements. -/
import Derived.Test.YtbafofldgkigmaaGreatDoorFourB
import Derived.Deep.RegionHeld3
namespace Go.Proofs.YtbafofldgkigmaaGreatDoor
open Go.RowKit
attribute [local irreducible] Calls
theorem Sufs.none (w : World) : Sufs w (.slice none 0 0) [] := ⟨⟨Option.none, 0, rfl, Nat.le_refl _, Nat.zero_le _, fun h => absurd h (Nat.lt_irrefl _)⟩, Nat.zero_le _, fun _ h => by cases h⟩
def oA : Gl.Origin := { opaq := false, id := 0, scheme := [104, 116, 116, 112, 115], host := { name := [97] }, port := 443 }
set_option maxRecDepth 100000 in
theorem of_A : Gl.originOf (Gl.parse [104, 116, 116, 112, 115, 58, 47, 47, 97, 58, 52, 52, 51, 47, 120]).1 1 = oA := by decide +kernel
def oB : Gl.Origin := { opaq := false, id := 0, scheme := [104, 116, 116, 112], host := { name := [97] }, port := 8 }
set_option maxRecDepth 100000 in
theorem of_B : Gl.originOf (Gl.parse [98, 108, 111, 98, 58, 104, 116, 116, 112, 58, 47, 47, 97, 58, 56, 47, 49]).1 2 = oB := by decide +kernel
def oC : Gl.Origin := { opaq := true, id := 3, scheme := [], host := { name := [] }, port := 0 }
set_option maxRecDepth 100000 in
theorem of_C : Gl.originOf (Gl.parse [100, 97, 116, 97, 58, 44, 120]).1 3 = oC := by decide +kernel
def oD : Gl.Origin := { opaq := false, id := 0, scheme := [104, 116, 116, 112], host := { name := [120, 46, 97, 46, 98] }, port := 80 }
set_option maxRecDepth 100000 in
theorem of_D : Gl.originOf (Gl.parse [104, 116, 116, 112, 58, 47, 47, 120, 46, 97, 46, 98, 47]).1 4 = oD := by decide +kernel
def oE : Gl.Origin := { opaq := false, id := 0, scheme := [104, 116, 116, 112, 115], host := { name := [121, 46, 97, 46, 98] }, port := 443 }
set_option maxRecDepth 100000 in
theorem of_E : Gl.originOf (Gl.parse [104, 116, 116, 112, 115, 58, 47, 47, 121, 46, 97, 46, 98, 47]).1 5 = oE := by decide +kernel
set_option maxRecDepth 100000 in
theorem text4_A : Gl.originText oA = [104, 116, 116, 112, 115, 58, 47, 47, 97] := by decide +kernel
set_option maxRecDepth 100000 in
theorem text4_B : Gl.originText oB = [104, 116, 116, 112, 58, 47, 47, 97, 58, 56] := by decide +kernel
set_option maxRecDepth 100000 in
theorem text4_C : Gl.originText oC = [110, 117, 108, 108] := by decide +kernel
theorem same_AB : Gl.originSame oA oB = false := by decide +kernel
theorem same_AA : Gl.originSame oA oA = true := by decide +kernel
set_option maxRecDepth 100000 in
theorem same_DE : Gl.sameSite oD oE [] = true := by decide +kernel
set_option maxRecDepth 100000 in
theorem site_D : Gl.originSite oD [] = [97, 46, 98] := by decide +kernel
theorem wide_A : OWide oA := ⟨⟨by decide, by decide⟩, by decide, by decide, by decide⟩
theorem wide_B : OWide oB := ⟨⟨by decide, by decide⟩, by decide, by decide, by decide⟩
theorem wide_C : OWide oC := ⟨⟨by decide, by decide⟩, by decide, by decide, by decide⟩
theorem wide_D : OWide oD := ⟨⟨by decide, by decide⟩, by decide, by decide, by decide⟩
theorem wide_E : OWide oE := ⟨⟨by decide, by decide⟩, by decide, by decide, by decide⟩
end Go.Proofs.YtbafofldgkigmaaGreatDoor
