/- Keys of origins of the net: the plain laws. -/
import Derived.Test.YtplbkocokknnoaaDoorPlain4
import Derived.Test.YtplbkocokknnoaaDoorKeys
namespace Go.Proofs.YtplbkocokknnoaaDoor
theorem netO_text_len17 {u : Gl.URL} (h : Norm u) : (Gl.originText (netO u)).length ≤ 1000 := by
  obtain ⟨n, hn⟩ := h.host
  have hh := (host_back n _ hn).2.2.2
  rw [h.otext]
  have hsl : u.scheme.length ≤ 5 := h.sch.2.2.2.2
  have ht : (Gl.hostText u.host).length ≤ 253 := by
    unfold Gl.hostParse at hn
    obtain ⟨e, _, _⟩ := hostOf_back _ _ hn
    rw [e]
    unfold Gl.hostOf at hn
    split at hn
    · injection hn with _ h2; cases h2
    · omega
  have hpl : (portT u).length ≤ 30 := by
    unfold portT
    split
    · rcases h.port with e | ⟨⟨x, hx⟩, _⟩
      · omega
      · have hr := number_range (by decide) hx
        have := Lib.itoa_length_le u.port (by omega) (by omega)
        simp; omega
    · simp
  simp
  omega
theorem netO_wide17 {u : Gl.URL} (h : Norm u) : OWide (netO u) := by
  obtain ⟨n, hn⟩ := h.host
  have hf := host_back n _ hn
  refine ⟨⟨?_, ?_⟩, ?_, ?_⟩
  · exact hf.2.1
  · have := h.name_len; show u.host.name.length ≤ _; omega
  · show u.scheme.length ≤ _
    rcases h.net with e | e <;> rw [e] <;> decide
  · have hp : -9223372036854775808 ≤ (netO u).port ∧ (netO u).port ≤ 9223372036854775807 := by
      unfold netO
      simp only
      split
      · unfold Gl.own; split <;> decide
      · rcases h.port with e | ⟨⟨x, hx⟩, _⟩
        · rw [e]; decide
        · have := number_range (by decide) hx; omega
    exact hp
theorem key_same {u v : Gl.URL} (hu : Norm u) (hv : Norm v) (S : List Gl.Bs) : (Gl.keyOf (netO u) true S = Gl.keyOf (netO v) true S) ↔ Gl.originSame (netO u) (netO v) = true := by
  have h := netO_same hu hv (by have := netO_text_len17 hu; omega)
  rw [h, beq_iff_eq]
  have e1 : Gl.keyOf (netO u) true S = Gl.originText (netO u) := rfl
  have e2 : Gl.keyOf (netO v) true S = Gl.originText (netO v) := rfl
  rw [e1, e2]
theorem key_site {u v : Gl.URL} (hu : Norm u) (hv : Norm v) (S : List Gl.Bs) : (Gl.keyOf (netO u) false S = Gl.keyOf (netO v) false S) ↔ (((netO u).scheme == (netO v).scheme) && Gl.sameSite (netO u) (netO v) S) = true := by
  have e1 : Gl.keyOf (netO u) false S = u.scheme ++ [58, 47, 47] ++ Gl.originSite (netO u) S := rfl
  have e2 : Gl.keyOf (netO v) false S = v.scheme ++ [58, 47, 47] ++ Gl.originSite (netO v) S := rfl
  have e3 : Gl.sameSite (netO u) (netO v) S = (Gl.originSite (netO u) S == Gl.originSite (netO v) S) := rfl
  rw [e1, e2, e3, Bool.and_eq_true, beq_iff_eq, beq_iff_eq]
  show _ ↔ u.scheme = v.scheme ∧ _
  rcases hu.net with h1 | h1 <;> rcases hv.net with h2 | h2 <;> rw [h1, h2] <;> simp [Gl.http, Gl.https]
end Go.Proofs.YtplbkocokknnoaaDoor
