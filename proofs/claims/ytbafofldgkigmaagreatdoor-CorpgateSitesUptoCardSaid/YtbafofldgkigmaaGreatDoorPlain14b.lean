/- The gate of resource policies: the plain laws. -/
import Derived.Test.YtbafofldgkigmaaGreatDoorInner14
import Derived.Test.YtbafofldgkigmaaGreatDoorRef4Of
import Derived.Test.YtbafofldgkigmaaGreatDoorCheck14
import Derived.Test.YtbafofldgkigmaaGreatDoorSmall14
namespace Go.Proofs.YtbafofldgkigmaaGreatDoor
theorem same_iff14 (a b : Gl.Origin) : Gl.originSame a b = true ↔ bareO a = bareO b := by
  obtain ⟨q, i, s, h, p⟩ := a
  obtain ⟨r, j, t, g, o⟩ := b
  unfold Gl.originSame bareO
  cases q <;> cases r <;> simp [and_assoc]
theorem same_symm14 (a b : Gl.Origin) : Gl.originSame b a = Gl.originSame a b := by
  rw [Bool.eq_iff_iff, same_iff14, same_iff14]
  exact ⟨Eq.symm, Eq.symm⟩
theorem site_self14 (a : Gl.Origin) (S : List Gl.Bs) : Gl.sameSite a a S = true := by
  unfold Gl.sameSite
  split
  · exact same_self a
  · simp
theorem site_symm14 (a b : Gl.Origin) (S : List Gl.Bs) : Gl.sameSite b a S = Gl.sameSite a b S := by
  unfold Gl.sameSite
  rw [Bool.or_comm, same_symm14]
  split
  · rfl
  · rw [Bool.eq_iff_iff, beq_iff_eq, beq_iff_eq]; exact ⟨Eq.symm, Eq.symm⟩
theorem of_net14 {u : Gl.URL} (h : Gl.isNet u = true) (id : Int) : Gl.originOf u id = netO u := by
  have hi : Gl.innerOf u = ({}, false) := by
    unfold Gl.innerOf
    rw [if_pos]
    unfold Gl.isNet at h
    intro e
    rw [e] at h
    exact absurd h (by decide)
  unfold Gl.originOf Gl.origOf
  rw [hi]
  simp only [Bool.false_eq_true, if_false]
  rw [h]
  rfl
theorem gate_mono14 {o r : Gl.Origin} {net : Bool} {k : Int} {S : List Gl.Bs} (h : Gl.gateC o r net k true S = true) : Gl.gateC o r net k false S = true := by
  unfold Gl.gateC at h ⊢
  split
  · rfl
  · rename_i h1
    rw [if_neg h1] at h
    split
    · rename_i h2
      rw [if_pos h2] at h
      exact h
    · rename_i h2
      rw [if_neg h2] at h
      split
      · rename_i h3
        rcases h3 with ⟨_, h3⟩ | h3
        · cases h3
        · rw [if_pos (Or.inr h3)] at h
          exact h
      · rfl
theorem gate_own14 (u : Gl.URL) (id : Int) (hl : List Gl.Head) (k : Int) (c n : Bool) (S : List Gl.Bs) : Gl.gate (Gl.originOf u id) u hl k c n S = true := by
  unfold Gl.gate Gl.gateC
  cases h : Gl.isNet u
  · rfl
  · rw [of_net14 h, of_net14 h, same_self, site_self14]
    rw [if_neg (by decide)]
    split
    · cases (netO u).scheme == Gl.https <;> rfl
    · split <;> rfl
def hd14x : Gl.Head := ⟨[99, 114, 111, 115, 115, 45, 111, 114, 105, 103, 105, 110, 45, 114, 101, 115, 111, 117, 114, 99, 101, 45, 112, 111, 108, 105, 99, 121], [99, 114, 111, 115, 115, 45, 111, 114, 105, 103, 105, 110]⟩
def hd14t : Gl.Head := ⟨[99, 114, 111, 115, 115, 45, 111, 114, 105, 103, 105, 110, 45, 114, 101, 115, 111, 117, 114, 99, 101, 45, 112, 111, 108, 105, 99, 121], [115, 97, 109, 101, 45, 115, 105, 116, 101]⟩
def hd14o : Gl.Head := ⟨[99, 114, 111, 115, 115, 45, 111, 114, 105, 103, 105, 110, 45, 114, 101, 115, 111, 117, 114, 99, 101, 45, 112, 111, 108, 105, 99, 121], [115, 97, 109, 101, 45, 111, 114, 105, 103, 105, 110]⟩
set_option maxRecDepth 100000 in
theorem corp14 : Gl.corp [hd14x] = 3 ∧ Gl.corp [hd14t] = 2 ∧ Gl.corp [hd14o] = 1 := by decide +kernel
theorem gate_all14 (o : Gl.Origin) (u : Gl.URL) (k : Int) (c n : Bool) (S : List Gl.Bs) : Gl.gate o u [hd14x] k c n S = true := by
  unfold Gl.gate Gl.gateC
  rw [corp14.1]
  split
  · rfl
  · rw [if_neg (by decide), if_neg (by rintro (⟨h, _⟩ | h) <;> exact absurd h (by decide))]
theorem small14_out {w : World} {o : Gl.Origin} {u : Gl.URL} {vh v : Value} {hl : List Gl.Head} {S : List (List UInt8)} (hoa : o.host.addr < 4294967296) (hua : u.host.addr < 4294967296) (hv : Strs w w.heap.size v S)
    (h : (smallHops o [⟨u, vh, hl⟩] && smallS S) = true) : OFits o ∧ HopFit u hl ∧ Sufs w v S := by
  rw [Bool.and_eq_true] at h
  obtain ⟨h1, h2⟩ := h
  obtain ⟨_, a1, _, a2⟩ := smallHops_out h1
  obtain ⟨b1, b2, b3, _, _, b4, _⟩ := hop_out (a2 ⟨u, vh, hl⟩ (by simp))
  obtain ⟨c1, c2⟩ := few8_out b1
  obtain ⟨d1, d2⟩ := small_out h2
  refine ⟨⟨hoa, by omega⟩, ⟨fun x hx => ⟨?_, ?_⟩, ?_, hua, b4, b3⟩, ⟨hv, by omega, fun s hs => ?_⟩⟩
  · have := (c2 x hx).1; omega
  · have := (c2 x hx).2; omega
  · show hl.length ≤ _; have : hl.length ≤ 20 := b2; omega
  · have := d2 s hs; omega
theorem gateV14 (a b c : Bool) : Gl.gateV a b c = .agg #[.bool (a && b), .bool (a && !b), .bool (a && !c)] := by
  cases a <;> rfl
end Go.Proofs.YtbafofldgkigmaaGreatDoor
