/- The gate of resource policies: what it says, plainly. -/
import Derived.Test.YtbafofldgkigmaaGreatDoorPlain4
import Derived.Test.YtbafofldgkigmaaGreatDoorFourB
namespace Go.Proofs.YtbafofldgkigmaaGreatDoor
theorem originOf_fits (u : Gl.URL) (id : Int) (ha : u.host.addr < 4294967296) (hn : u.host.name.length ≤ 1000) : OFits (Gl.originOf u id) := by
  by_cases hi : (Gl.innerOf u).2 = true
  · have hp : (Gl.parse u.rest).2 = 0 ∧ Gl.isNet (Gl.parse u.rest).1 = true ∧ (Gl.innerOf u).1 = (Gl.parse u.rest).1 := by
      unfold Gl.innerOf at hi ⊢
      split at hi
      · cases hi
      · rename_i h1
        split at hi
        · cases hi
        · rename_i h2
          rw [if_neg h1, if_neg h2]
          refine ⟨?_, ?_, rfl⟩
          · exact Decidable.byContradiction fun h => h2 (Or.inl h)
          · exact Bool.of_not_eq_false fun h => h2 (Or.inr h)
    have h := (norm_of _ hp.1 hp.2.1).1
    have e : Gl.originOf u id = netO (Gl.parse u.rest).1 := by
      unfold Gl.originOf Gl.origOf
      rw [if_pos hi, hp.2.2, hp.2.1]
      rfl
    rw [e]
    obtain ⟨n, hn2⟩ := h.host
    exact ⟨(host_back n _ hn2).2.1, by have := h.name_len; show (Gl.parse u.rest).1.host.name.length ≤ _; omega⟩
  · unfold Gl.originOf
    rw [if_neg hi]
    unfold Gl.origOf
    split
    · exact ⟨by show (0 : Nat) < 4294967296; decide, by show (0 : Nat) ≤ 1000000; decide⟩
    · exact ⟨ha, by show u.host.name.length ≤ _; omega⟩
def Gl.strictC (coep : Int) (creds nav : Bool) : Bool := (coep == 2) || ((coep == 1) && (creds || nav))
def Gl.gateC (o r : Gl.Origin) (net : Bool) (corp : Int) (st : Bool) (S : List (List UInt8)) : Bool :=
  if net = false then true
  else if corp = 2 then Gl.sameSite o r S && ((o.scheme == Gl.https) || !(r.scheme == Gl.https))
  else if (corp = 0 ∧ st = true) ∨ corp = 1 then Gl.originSame o r
  else true
end Go.Proofs.YtbafofldgkigmaaGreatDoor
