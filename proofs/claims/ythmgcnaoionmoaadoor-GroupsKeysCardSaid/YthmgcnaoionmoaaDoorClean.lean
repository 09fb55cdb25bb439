/- A path without points: the plain part. -/
import Derived.Test.YthmgcnaoionmoaaDoorSpec
namespace Go.Proofs.YthmgcnaoionmoaaDoor

/-- What one part does to those that are kept; 'last': is it the last one? -/
def stepOut (out : List (List UInt8)) (p : List UInt8) (last : Bool) : List (List UInt8) :=
  if p = [46, 46] then (if last then out.dropLast ++ [[]] else out.dropLast)
  else if p = [46] then (if last then out ++ [[]] else out)
  else out ++ [p]
theorem cleanGo_step (out : List (List UInt8)) (p : List UInt8) (r : List (List UInt8)) : Gl.cleanGo out (p :: r) = Gl.cleanGo (stepOut out p r.isEmpty) r := by
  unfold stepOut
  conv => lhs; unfold Gl.cleanGo
  cases r with
  | nil => simp [Gl.cleanGo]
  | cons q r => simp; split <;> (try split) <;> rfl
theorem slashed_append (a b : List (List UInt8)) : Gl.slashed (a ++ b) = Gl.slashed a ++ Gl.slashed b := by simp [Gl.slashed]
theorem slashed_cons (a : List UInt8) (b : List (List UInt8)) : Gl.slashed (a :: b) = 47 :: a ++ Gl.slashed b := by simp [Gl.slashed]
theorem slashed_dropLast (a : List (List UInt8)) : (Gl.slashed a.dropLast).length ≤ (Gl.slashed a).length := by
  rcases List.eq_nil_or_concat a with rfl | ⟨b, x, rfl⟩
  · simp
  · rw [List.concat_eq_append, List.dropLast_concat, slashed_append]; simp
theorem stepOut_len (out : List (List UInt8)) (p : List UInt8) (last : Bool) : (Gl.slashed (stepOut out p last)).length ≤ (Gl.slashed out).length + p.length + 1 := by
  have := slashed_dropLast out
  unfold stepOut
  split
  · split
    · rw [slashed_append, slashed_cons]; simp [Gl.slashed] at *; omega
    · omega
  · split
    · split
      · rw [slashed_append, slashed_cons]; simp [Gl.slashed] <;> omega
      · omega
    · rw [slashed_append, slashed_cons]; simp [Gl.slashed] <;> omega
theorem cleanGo_len (L : List (List UInt8)) : ∀ out, (Gl.slashed (Gl.cleanGo out L)).length ≤ (Gl.slashed out).length + (Gl.slashed L).length := by
  induction L with
  | nil => intro out; simp [Gl.cleanGo]
  | cons p r ih =>
    intro out
    rw [cleanGo_step]
    have h1 := ih (stepOut out p r.isEmpty)
    have h2 := stepOut_len out p r.isEmpty
    rw [slashed_cons]
    simp
    omega
theorem slashed_split (c : UInt8) (l : List UInt8) : (Gl.slashed (Gl.split c l)).length = l.length + 1 := by
  have : ∀ (l p : List UInt8), (Gl.slashed (Gl.splitGo c p l)).length = p.length + l.length + 1 := by
    intro l
    induction l with
    | nil => intro p; simp [Gl.splitGo, Gl.slashed]
    | cons x r ih =>
      intro p
      unfold Gl.splitGo
      split
      · rw [slashed_cons]; simp [ih] <;> omega
      · rw [ih]; simp <;> omega
  have := this l []
  simp only [List.length_nil, Nat.zero_add] at this
  exact this
theorem clean_len (path : List UInt8) : (Gl.clean path).length ≤ path.length + 1 := by
  unfold Gl.clean
  have h := cleanGo_len (Gl.split 47 (path.drop 1)) []
  rw [slashed_split] at h
  simp [Gl.slashed] at h ⊢
  omega
theorem slashed_take (L : List (List UInt8)) (k : Nat) : (Gl.slashed (L.take k)).length ≤ (Gl.slashed L).length := by
  conv => rhs; rw [← List.take_append_drop k L]
  rw [slashed_append]
  simp
theorem len_slashed (L : List (List UInt8)) : L.length ≤ (Gl.slashed L).length := by
  induction L with
  | nil => simp
  | cons a b ih => rw [slashed_cons]; simp; omega
end Go.Proofs.YthmgcnaoionmoaaDoor
