/- The length of a host's name that is read. -/
import Derived.Test.YtbafofldgkigmaaGreatDoorPlain3
namespace Go.Proofs.YtbafofldgkigmaaGreatDoor
theorem hostOf_name (s : List UInt8) (h : Gl.Host) (hs : Gl.hostOf s = (h, 0)) : h.name = s ∨ h.name = [] := by
  unfold Gl.hostOf at hs
  split at hs
  · cases hs
  · unfold Gl.host1 at hs
    split at hs
    · cases hs
    · unfold Gl.host2 at hs
      split at hs
      · cases hs; exact Or.inl rfl
      · split at hs
        · cases hs
        · unfold Gl.host3 at hs
          split at hs
          · cases hs
          · cases hs; exact Or.inr rfl
theorem Norm.name_len {u : Gl.URL} (h : Norm u) : u.host.name.length ≤ 253 := by
  obtain ⟨n, hn⟩ := h.host
  have hl : (Gl.lower n).length ≤ 253 := by
    unfold Gl.hostParse Gl.hostOf at hn
    by_cases hc : (Gl.lower n).length < 1 ∨ 253 < (Gl.lower n).length
    · rw [if_pos hc] at hn
      have := congrArg Prod.snd hn
      exact absurd (show (20 : Int) = 0 from this) (by decide)
    · omega
  rcases hostOf_name _ _ hn with e | e <;> rw [e]
  · exact hl
  · simp
end Go.Proofs.YtbafofldgkigmaaGreatDoor
