/- Sites of hosts: the plain functions; the reference's 'ends'. -/
import Derived.Test.YthmgcnaoionmoaaDoorTexts
import Derived.Test.YthmgcnaoionmoaaDoorLib
namespace Go.Proofs.YthmgcnaoionmoaaDoor
open Go.RowKit
namespace Gl
/-- Does a row of texts end in another? -/
def endsIn (l p : List Bs) : Bool := decide (p.length ≤ l.length) && (l.drop (l.length - p.length) == p)
/-- The length of the longest suffix that a name ends in, b being the longest so far. -/
def best (l : List Bs) : Nat → List Bs → Nat
  | b, [] => b
  | b, s :: r => best l (if endsIn l (split 46 s) then max b (split 46 s).length else b) r
def siteParts (l : List Bs) (b : Nat) : List Bs := l.drop (l.length - max b 1 - 1)
def siteOf (h : Host) (suf : List Bs) : Bs := if h.v4 then hostText h else Lib.join (siteParts (split 46 h.name) (best (split 46 h.name) 0 suf)) [46]
end Gl
theorem endsIn_len {l p : List Gl.Bs} (h : Gl.endsIn l p = true) : p.length ≤ l.length := by
  unfold Gl.endsIn at h; simp at h; exact h.1
theorem best_le (l : List Gl.Bs) (S : List Gl.Bs) : ∀ b, b ≤ l.length → Gl.best l b S ≤ l.length := by
  induction S with
  | nil => intro b h; exact h
  | cons s r ih =>
    intro b h
    unfold Gl.best
    apply ih
    split
    · rename_i he; have := endsIn_len he; omega
    · exact h
theorem Strs.tail {w : World} {B b o n c : Nat} {L : List (List UInt8)} (h : Strs w B (.slice (some ⟨b, o, none⟩) n c) L) (k : Nat) (hk : k < L.length) : Strs w B (.slice (some ⟨b, o + k, none⟩) (L.length - k) (c - k)) (L.drop k) := by
  obtain ⟨A, c', he, h1, h2, h3⟩ := h
  injection he with he1 he2 he3
  subst he1 he2 he3
  obtain ⟨b', o', hA, hB, hc⟩ := h3 (by omega)
  injection hA with hA
  injection hA with e1 e2
  subst e1 e2
  refine ⟨_, c - k, by rw [List.length_drop], by rw [List.length_drop]; omega, by omega, fun _ => ⟨b, o + k, rfl, hB, fun j hj => ?_⟩⟩
  rw [List.length_drop] at hj
  have := hc (k + j) (by omega)
  rw [List.getElem_drop, Nat.add_assoc]
  exact this
attribute [local irreducible] Calls
set_option maxHeartbeats 1000000 in
theorem ref2_ends (v v' : Value) (L M : List (List UInt8)) (w : World) (B B' : Nat) (hv : Strs w B v L) (hv' : Strs w B' v' M) (h0 : 0 < M.length) (hl : L.length ≤ 281474976710656) (hl' : M.length ≤ 281474976710656) :
    Calls Tryd.prog 92 #[v, v'] w (Ret w (.bool (Gl.endsIn L M))) := by
  generalize hR : Gl.endsIn L M = R
  unfold Gl.endsIn at hR
  replace hR := Lib.hid hR
  by_cases hlen : M.length ≤ L.length
  · have hL0 : 0 < L.length := by omega
    obtain ⟨b, o, c, rfl, hB, _⟩ := hv.cells 0 hL0
    have hc : L.length ≤ c ∧ c ≤ maxLen := by
      obtain ⟨_, _, he, h1, h2, _⟩ := hv
      injection he with _ _ he
      rw [he]; exact ⟨h1, h2⟩
    obtain ⟨hc1, hc2⟩ := hc
    unfold maxLen at hc2
    have hR2 : Hid ((L.drop (L.length - M.length) == M) = R) := Lib.hid (by rw [← hR.out]; simp [hlen])
    have hs := hv.tail (L.length - M.length) (by omega)
    have hte := ref1_texts _ v' (L.drop (L.length - M.length)) M w B B' hs hv' (by rw [List.length_drop]; omega) hl'
    rw [hR2.out] at hte
    have e1 : L.length - (L.length - M.length) = M.length := by omega
    rw [e1] at hte
    obtain ⟨A', c', rfl, hc1', hc2', _⟩ := hv'
    clear hs hv
    replace hte := Lib.hid hte
    go_enter Tryd.func92, Tryd.ntmps92
    go_wp2_with (go_at_call 109; refine hte.out.mono ?_; rintro e w1 ⟨rfl, hb⟩)
    go_ret
    exact ⟨rfl, hb⟩
  · have hf : Hid (R = false) := Lib.hid (by rw [← hR.out]; simp; omega)
    obtain ⟨A, c, rfl, hc1, hc2, _⟩ := hv
    obtain ⟨A', c', rfl, hc1', hc2', _⟩ := hv'
    go_enter Tryd.func92, Tryd.ntmps92
    go_wp2
    go_ret
    exact ⟨by rw [hf.out] <;> rfl, Below.refl _ _⟩
end Go.Proofs.YthmgcnaoionmoaaDoor
