/- Being framed: the plain laws. -/
import Derived.Test.YtkfoogmncokjnaaGreatDoorEmbedF
namespace Go.Proofs.YtkfoogmncokjnaaGreatDoor
open Go.RowKit
theorem frameGo_eq (self : Gl.Origin) (As : List Gl.Origin) (x : Bool) : ∀ (Ps : List Gl.Pol) (h : Bool), Gl.frameGo self As x Ps h = if Ps.all (Gl.lets self As) then (if h || Ps.any (fun p => p.has) || x then 0 else 3) else 2 := by
  intro Ps
  induction Ps with
  | nil => intro h; simp [Gl.frameGo]
  | cons p r ih =>
    intro h
    rw [Gl.frameGo, ih]
    cases hp : Gl.lets self As p
    · simp [hp]
    · simp [hp, Bool.or_assoc]
theorem lets_more {self a : Gl.Origin} {As : List Gl.Origin} {p : Gl.Pol} (h : Gl.lets self (As ++ [a]) p = true) : Gl.lets self As p = true := by
  unfold Gl.lets at *
  unfold Gl.framesS at *
  cases hp : p.has
  · simp
  · rw [hp] at h
    simp at h
    simp
    exact h.1
theorem lets_nil (self : Gl.Origin) (p : Gl.Pol) : Gl.lets self [] p = true := by
  unfold Gl.lets Gl.framesS
  simp
theorem xfo_more {x : Int} {self a : Gl.Origin} {As : List Gl.Origin} (h : Gl.xfo x self (As ++ [a]) = true) : Gl.xfo x self As = true := by
  unfold Gl.xfo at *
  split
  · rename_i hx
    rw [if_pos hx] at h
    simp at h
  · rename_i hx
    rw [if_neg hx] at h
    split
    · rename_i hy
      rw [if_pos hy] at h
      rw [List.all_append, Bool.and_eq_true] at h
      exact h.1
    · rfl
theorem xfo_nil (x : Int) (self : Gl.Origin) : Gl.xfo x self [] = true := by
  unfold Gl.xfo
  split
  · simp
  · split <;> simp
/-- The verdict of Frame. -/
def Gl.frame (self : Gl.Origin) (As : List Gl.Origin) (x : Int) (Ps : List Gl.Pol) : Int := Gl.frameGo self As (Gl.xfo x self As) Ps false
theorem frame_none (self : Gl.Origin) (x : Int) (Ps : List Gl.Pol) : Gl.frame self [] x Ps = 0 := by
  unfold Gl.frame
  rw [frameGo_eq, xfo_nil, if_pos (List.all_eq_true.2 fun p _ => lets_nil self p)]
  simp
theorem frame_less {self a : Gl.Origin} {As : List Gl.Origin} {x : Int} {Ps : List Gl.Pol} (h : Gl.frame self (As ++ [a]) x Ps = 0) : Gl.frame self As x Ps = 0 := by
  unfold Gl.frame at *
  rw [frameGo_eq] at *
  split at h
  · rename_i ha
    rw [if_pos (List.all_eq_true.2 fun p hp => lets_more (List.all_eq_true.1 ha p hp))]
    split at h
    · rename_i hb
      rw [if_pos]
      simp only [Bool.or_eq_true] at hb ⊢
      rcases hb with hb | hb
      · exact Or.inl hb
      · exact Or.inr (xfo_more hb)
    · exact absurd h (by decide)
  · exact absurd h (by decide)
theorem frame_three {self : Gl.Origin} {As : List Gl.Origin} {x : Int} {Ps : List Gl.Pol} (h : Gl.frame self As x Ps = 3) : Ps.any (fun p => p.has) = false := by
  unfold Gl.frame at h
  rw [frameGo_eq] at h
  split at h
  · split at h
    · exact absurd h (by decide)
    · rename_i hb
      cases hc : Ps.any (fun p => p.has)
      · rfl
      · rw [hc] at hb; simp at hb
  · exact absurd h (by decide)
theorem frame_two {self : Gl.Origin} {As : List Gl.Origin} {x : Int} {Ps : List Gl.Pol} (h : Gl.frame self As x Ps = 2) : Ps.any (fun p => p.has) = true := by
  unfold Gl.frame at h
  rw [frameGo_eq] at h
  split at h
  · split at h <;> exact absurd h (by decide)
  · rename_i hb
    rw [List.all_eq_true] at hb
    rw [List.any_eq_true]
    by_cases he : ∃ p ∈ Ps, Gl.lets self As p = false
    · obtain ⟨p, hp, hq⟩ := he
      exact ⟨p, hp, lets_has hq⟩
    · exact absurd (fun p hp => by
        cases hq : Gl.lets self As p
        · exact absurd ⟨p, hp, hq⟩ he
        · rfl) hb
theorem frame_has {self : Gl.Origin} {As : List Gl.Origin} {x y : Int} {Ps : List Gl.Pol} (h : Ps.any (fun p => p.has) = true) : Gl.frame self As x Ps = Gl.frame self As y Ps := by
  unfold Gl.frame
  rw [frameGo_eq, frameGo_eq, h]
  simp
theorem frame_range (self : Gl.Origin) (As : List Gl.Origin) (x : Int) (Ps : List Gl.Pol) : Gl.frame self As x Ps = 0 ∨ Gl.frame self As x Ps = 2 ∨ Gl.frame self As x Ps = 3 := by
  unfold Gl.frame
  rw [frameGo_eq]
  split
  · split <;> simp
  · simp
end Go.Proofs.YtkfoogmncokjnaaGreatDoor
