/- What a URL of http or https is taken apart into: the plain part. -/
import Derived.Test.YthmgcnaoionmoaaDoorClean
namespace Go.Proofs.YthmgcnaoionmoaaDoor

theorem span_len (of l : List UInt8) : (Gl.span of l).1.length + (Gl.span of l).2.length = l.length := by
  unfold Gl.span
  rw [← List.length_append, List.takeWhile_append_dropWhile]
theorem span_head (of l : List UInt8) : (Gl.span of l).2 = [] ∨ ∃ c, (Gl.span of l).2.head? = some c ∧ of.contains c = true := by
  unfold Gl.span
  induction l with
  | nil => exact Or.inl rfl
  | cons a r ih =>
    simp only [List.dropWhile_cons]
    split
    · exact ih
    · rename_i h
      exact Or.inr ⟨a, rfl, by simpa using h⟩
theorem span_path (l : List UInt8) : (Gl.span [63] (Gl.span [47, 63] l).2).1 = [] ∨ (Gl.span [63] (Gl.span [47, 63] l).2).1.head? = some 47 := by
  rcases span_head [47, 63] l with h | ⟨c, h, hc⟩
  · rw [h]; exact Or.inl rfl
  · cases hb : (Gl.span [47, 63] l).2 with
    | nil => exact Or.inl rfl
    | cons a r =>
      rw [hb] at h
      obtain rfl : a = c := by simpa using h
      have : a = 47 ∨ a = 63 := by simpa using hc
      rcases this with rfl | rfl
      · exact Or.inr rfl
      · exact Or.inl rfl

/-- A URL of http or https with its port, from what stands ahead of the path and from that on. -/
def done (s : Gl.Bs) (h : Gl.Host) (b : List UInt8) (port : Int) : Gl.URL × Int :=
  ({ scheme := s, host := h, port := port, path := Gl.clean (Gl.span [63] b).1, hasQuery := !(Gl.span [63] b).2.isEmpty, query := (Gl.span [63] b).2.drop 1 }, 0)
theorem web_slash (u : Gl.URL) (rest : List UInt8) (h : ([47, 47] : List UInt8).isPrefixOf rest = false) : Gl.web u rest = ({}, 30) := by
  unfold Gl.web; simp only [h]; rfl
theorem web_at (u : Gl.URL) (rest : List UInt8) (h : (Gl.span [47, 63] (rest.drop 2)).1.contains 64 = true) : Gl.web u rest = ({}, 30) := by
  unfold Gl.web
  split
  · rfl
  · simp only [h]; rfl
theorem web_more (u : Gl.URL) (rest : List UInt8) (h : ([47, 47] : List UInt8).isPrefixOf rest = true) (h2 : (Gl.span [47, 63] (rest.drop 2)).1.contains 64 = false) :
    Gl.web u rest = (if (Gl.hostParse (Gl.span [58] (Gl.span [47, 63] (rest.drop 2)).1).1).2 ≠ 0 then (({} : Gl.URL), (Gl.hostParse (Gl.span [58] (Gl.span [47, 63] (rest.drop 2)).1).1).2)
      else if 1 < (Gl.span [58] (Gl.span [47, 63] (rest.drop 2)).1).2.length then
        match Gl.number ((Gl.span [58] (Gl.span [47, 63] (rest.drop 2)).1).2.drop 1) 65535 with
        | none => ({}, 32)
        | some n => ({ u with host := (Gl.hostParse (Gl.span [58] (Gl.span [47, 63] (rest.drop 2)).1).1).1, port := if n = Gl.own u.scheme then u.port else n, path := Gl.clean (Gl.span [63] (Gl.span [47, 63] (rest.drop 2)).2).1, hasQuery := !(Gl.span [63] (Gl.span [47, 63] (rest.drop 2)).2).2.isEmpty, query := (Gl.span [63] (Gl.span [47, 63] (rest.drop 2)).2).2.drop 1 }, 0)
      else ({ u with host := (Gl.hostParse (Gl.span [58] (Gl.span [47, 63] (rest.drop 2)).1).1).1, port := u.port, path := Gl.clean (Gl.span [63] (Gl.span [47, 63] (rest.drop 2)).2).1, hasQuery := !(Gl.span [63] (Gl.span [47, 63] (rest.drop 2)).2).2.isEmpty, query := (Gl.span [63] (Gl.span [47, 63] (rest.drop 2)).2).2.drop 1 }, 0)) := by
  unfold Gl.web
  simp only [h, h2]
  rfl
theorem prefix2_len {rest : List UInt8} (h : ([47, 47] : List UInt8).isPrefixOf rest = true) : 2 ≤ rest.length := by
  rw [List.isPrefixOf_iff_prefix] at h
  exact h.length_le
end Go.Proofs.YthmgcnaoionmoaaDoor
