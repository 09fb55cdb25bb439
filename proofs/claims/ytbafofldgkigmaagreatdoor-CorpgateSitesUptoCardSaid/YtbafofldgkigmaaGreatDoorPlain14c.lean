/- The gate of resource policies: more plain laws. -/
import Derived.Test.YtbafofldgkigmaaGreatDoorPlain14b
namespace Go.Proofs.YtbafofldgkigmaaGreatDoor
theorem small14_any {w : World} {o : Gl.Origin} {u : Gl.URL} {vh v : Value} {hl : List Gl.Head} {S : List (List UInt8)} (hua : u.host.addr < 4294967296) (hv : Strs w w.heap.size v S)
    (h : (smallHops o [⟨u, vh, hl⟩] && smallS S) = true) : HopFit u hl ∧ Sufs w v S := by
  rw [Bool.and_eq_true] at h
  obtain ⟨h1, h2⟩ := h
  obtain ⟨_, a1, _, a2⟩ := smallHops_out h1
  obtain ⟨b1, b2, b3, _, _, b4, _⟩ := hop_out (a2 ⟨u, vh, hl⟩ (by simp))
  obtain ⟨c1, c2⟩ := few8_out b1
  obtain ⟨d1, d2⟩ := small_out h2
  refine ⟨⟨fun x hx => ⟨?_, ?_⟩, ?_, hua, b4, b3⟩, ⟨hv, by omega, fun s hs => ?_⟩⟩
  · have := (c2 x hx).1; omega
  · have := (c2 x hx).2; omega
  · show hl.length ≤ _; have : hl.length ≤ 20 := b2; omega
  · have := d2 s hs; omega
def o14N : Gl.Origin := { opaq := true, id := 9 }
theorem fits14N : OFits o14N := ⟨by decide, by decide⟩
theorem hop14x {u : Gl.URL} {hl : List Gl.Head} (h : HopFit u hl) : HopFit u [hd14x] := ⟨(by intro x hx; simp at hx; subst hx; exact ⟨by decide, by decide⟩), by decide, h.addr, h.name, h.rest⟩
theorem hop14t {u : Gl.URL} {hl : List Gl.Head} (h : HopFit u hl) : HopFit u [hd14t] := ⟨(by intro x hx; simp at hx; subst hx; exact ⟨by decide, by decide⟩), by decide, h.addr, h.name, h.rest⟩
theorem hop14o {u : Gl.URL} {hl : List Gl.Head} (h : HopFit u hl) : HopFit u [hd14o] := ⟨(by intro x hx; simp at hx; subst hx; exact ⟨by decide, by decide⟩), by decide, h.addr, h.name, h.rest⟩
end Go.Proofs.YtbafofldgkigmaaGreatDoor
