/- What comes of a request: the plain laws. -/
import Derived.Test.YtbafofldgkigmaaGreatDoorThirteen
namespace Go.Proofs.YtbafofldgkigmaaGreatDoor
theorem foreignK_eq (o : Gl.Origin) (L : List Gl.Hop) : ∀ k, k ≤ L.length → Gl.foreignK o L k = !((L.take k).all fun h => Gl.ownH o h.url) := by
  intro k
  induction k with
  | zero => intro _; simp [Gl.foreignK]
  | succ k ih =>
    intro hk
    have hlt : k < L.length := by omega
    rw [Gl.foreignK, ih (by omega), List.take_succ_eq_append_getElem hlt, List.all_append, uAt, hopAt_lt hlt]
    simp
theorem foreignK_len (o : Gl.Origin) (L : List Gl.Hop) : Gl.foreignK o L L.length = !(L.all fun h => Gl.ownH o h.url) := by
  rw [foreignK_eq o L _ (Nat.le_refl _), List.take_length]
theorem foreignK_mono (o : Gl.Origin) (L : List Gl.Hop) {a b : Nat} (h : a ≤ b) (ha : Gl.foreignK o L a = true) : Gl.foreignK o L b = true := by
  induction b with
  | zero =>
    obtain rfl : a = 0 := by omega
    exact ha
  | succ b ih =>
    by_cases e : a = b + 1
    · subst e; exact ha
    · rw [Gl.foreignK, ih (by omega)]; rfl
theorem nullK_own (o : Gl.Origin) (L : List Gl.Hop) : ∀ k, Gl.foreignK o L k = false → Gl.nullK o L k = false := by
  intro k
  induction k with
  | zero => intro _; rfl
  | succ k ih =>
    intro h
    rw [Gl.foreignK, Bool.or_eq_false_iff] at h
    rw [Gl.nullK, ih h.1]
    by_cases h0 : 0 < k
    · have : Gl.ownH o (uAt L (k - 1)) = true := by
        have h1 := h.1
        obtain ⟨j, rfl⟩ : ∃ j, k = j + 1 := ⟨k - 1, by omega⟩
        rw [Gl.foreignK, Bool.or_eq_false_iff] at h1
        simpa using h1.2
      rw [this]
      simp
    · rw [decide_eq_false h0]
      simp
theorem anyBad_own (c : Int) (o : Gl.Origin) (L : List Gl.Hop) (n : Nat) (h : Gl.foreignK o L n = false) : Gl.anyBad c o L n = false := by
  unfold Gl.anyBad
  rw [List.any_eq_false]
  intro k hk
  rw [List.mem_range] at hk
  have : Gl.foreignK o L (k + 1) = false := by
    cases e : Gl.foreignK o L (k + 1)
    · rfl
    · rw [foreignK_mono o L (by omega) e] at h; cases h
  unfold Gl.badK
  rw [this]
  simp
theorem mayH_net {L : List Gl.Hop} (h1 : 1 ≤ L.length) (h2 : L.length ≤ 21) (hn : L.all (fun h => Gl.isNet h.url) = true) : Gl.mayH L = true ∧ Gl.isNet (uAt L 0) = true := by
  refine ⟨?_, ?_⟩
  · unfold Gl.mayH
    rw [hn, decide_eq_true h1, decide_eq_true h2]
    simp
  · unfold uAt
    rw [hopAt_lt (by omega)]
    rw [List.all_eq_true] at hn
    exact hn _ (List.getElem_mem _)
/-- What is walked of hops of the net. -/
theorem walk_net {m c cp : Int} {o : Gl.Origin} {L : List Gl.Hop} (hm : ¬ (m < 1 ∨ 3 < m)) (h1 : 1 ≤ L.length) (h2 : L.length ≤ 21) (hn : L.all (fun h => Gl.isNet h.url) = true) :
    Gl.walk m c cp o L = if m = 3 ∧ Gl.anyBad c o L L.length = true then ({}, 131) else (Gl.gotOf m c cp o L, 0) := by
  obtain ⟨ha, hb⟩ := mayH_net h1 h2 hn
  unfold Gl.walk
  rw [if_neg hm, ha, hb]
  simp
theorem walk_arg {m c cp : Int} {o : Gl.Origin} {L : List Gl.Hop} (hm : m < 1 ∨ 3 < m) : Gl.walk m c cp o L = ({}, 1) := by
  unfold Gl.walk
  rw [if_pos hm]
/-- Own hops alone are basic. -/
theorem walk_own {m c cp : Int} {o : Gl.Origin} {L : List Gl.Hop} (hm : ¬ (m < 1 ∨ 3 < m)) (h1 : 1 ≤ L.length) (h2 : L.length ≤ 21) (hn : L.all (fun h => Gl.isNet h.url) = true) (ho : L.all (fun h => Gl.ownH o h.url) = true) :
    (Gl.walk m c cp o L).2 = 0 ∧ (Gl.walk m c cp o L).1.taint = 1 ∧ (Gl.walk m c cp o L).1.null = false := by
  rw [walk_net hm h1 h2 hn]
  have hf : Gl.foreignK o L L.length = false := by rw [foreignK_len, ho]; rfl
  rw [anyBad_own c o L _ hf]
  simp only [Bool.false_eq_true, and_false, if_false]
  refine ⟨trivial, ?_, nullK_own o L _ hf⟩
  unfold Gl.gotOf
  simp only [hf, Bool.false_eq_true, if_false, ite_self]
theorem walk_other {m c cp : Int} {o : Gl.Origin} {L : List Gl.Hop} (hm : ¬ (m < 1 ∨ 3 < m)) (h1 : 1 ≤ L.length) (h2 : L.length ≤ 21) (hn : L.all (fun h => Gl.isNet h.url) = true) (ho : L.all (fun h => Gl.ownH o h.url) = false) :
    (m = 3 ∧ (Gl.walk m c cp o L).2 = 131) ∨ (m = 3 ∧ (Gl.walk m c cp o L).2 = 0 ∧ (Gl.walk m c cp o L).1.taint = 2) ∨ (m = 2 ∧ (Gl.walk m c cp o L).2 = 0 ∧ (Gl.walk m c cp o L).1.taint = 3) ∨ (m = 1 ∧ (Gl.walk m c cp o L).2 = 0 ∧ (Gl.walk m c cp o L).1.taint = 1 ∧ (Gl.walk m c cp o L).1.creds = true) := by
  rw [walk_net hm h1 h2 hn]
  have hf : Gl.foreignK o L L.length = true := by rw [foreignK_len, ho]; rfl
  have h3 : m = 1 ∨ m = 2 ∨ m = 3 := by omega
  rcases h3 with rfl | rfl | rfl
  · refine Or.inr (Or.inr (Or.inr ⟨rfl, ?_⟩))
    simp [Gl.gotOf]
  · refine Or.inr (Or.inr (Or.inl ⟨rfl, ?_⟩))
    simp [Gl.gotOf, hf]
  · by_cases hb : Gl.anyBad c o L L.length = true
    · exact Or.inl ⟨rfl, by simp [hb]⟩
    · refine Or.inr (Or.inl ⟨rfl, ?_⟩)
      simp [hb, Gl.gotOf, hf]
theorem shared_creds {L : List Gl.Head} {t : List UInt8} (h : Gl.shared L t true = true) : 0 < (Gl.values L accT).length := by
  unfold Gl.shared at h
  split at h
  · simp only [if_true, Bool.and_eq_true, beq_iff_eq] at h
    have h2 := h.2
    unfold Gl.combined at h2
    cases hv : Gl.values L accT with
    | nil => rw [hv] at h2; exact absurd h2 (by decide)
    | cons a r => simp
  · cases h
/-- What is sent without leave for credentials. -/
theorem walk_leaves {m c : Int} {o : Gl.Origin} {L : List Gl.Hop} (hm : m ≠ 1) (he : (Gl.walk m c 1 o L).2 = 0) (hc : (Gl.walk m c 1 o L).1.creds = true) :
    (L.all (fun h => Gl.ownH o h.url) = true ∧ (Gl.walk m c 1 o L).1.taint = 1) ∨ (L.all (fun h => Gl.ownH o h.url) = false ∧ (Gl.walk m c 1 o L).1.taint = 2 ∧ c = 2 ∧ 1 ≤ L.length ∧ 0 < (Gl.values (hopAt L (L.length - 1)).head accT).length) := by
  unfold Gl.walk at he hc ⊢
  split at he
  · exact absurd he (by show ¬ ((1 : Int) = 0); decide)
  rename_i hm2
  rw [if_neg hm2] at hc ⊢
  split at he
  · exact absurd he (by show ¬ ((130 : Int) = 0); decide)
  rename_i hm3
  rw [if_neg hm3] at hc ⊢
  split at he
  · rename_i h4
    rw [if_pos h4] at hc
    exact absurd hc (by show ¬ (false = true); decide)
  rename_i h4
  rw [if_neg h4] at hc ⊢
  split at he
  · exact absurd he (by show ¬ ((131 : Int) = 0); decide)
  rename_i h5
  rw [if_neg h5] at hc ⊢
  have hl : 1 ≤ L.length := by
    have h6 : Gl.mayH L = true := by simpa using hm3
    unfold Gl.mayH at h6
    simp only [Bool.and_eq_true, decide_eq_true_eq] at h6
    exact h6.1.1
  clear he
  have hf := foreignK_len o L
  have h23 : m = 2 ∨ m = 3 := by omega
  cases ha : L.all (fun h => Gl.ownH o h.url)
  · rw [ha] at hf
    simp only [Bool.not_false] at hf
    right
    refine ⟨rfl, ?_⟩
    rcases h23 with rfl | rfl
    · exfalso
      simp [Gl.gotOf, hf] at hc
    · simp only [Gl.gotOf, hf] at hc ⊢
      simp at hc
      have hc2 : c = 2 := hc
      refine ⟨rfl, hc2, hl, ?_⟩
      subst hc2
      have hb : Gl.anyBad 2 o L L.length = false := by
        cases e : Gl.anyBad 2 o L L.length
        · rfl
        · exact absurd ⟨rfl, e⟩ h5
      have hk : Gl.badK 2 o L (L.length - 1) = false := by
        unfold Gl.anyBad at hb
        rw [List.any_eq_false] at hb
        have := hb (L.length - 1) (by rw [List.mem_range]; omega)
        simpa using this
      unfold Gl.badK at hk
      rw [show L.length - 1 + 1 = L.length by omega, hf] at hk
      simp only [Bool.true_and, Bool.not_eq_false'] at hk
      exact shared_creds hk
  · rw [ha] at hf
    simp only [Bool.not_true] at hf
    left
    refine ⟨rfl, ?_⟩
    simp only [Gl.gotOf, hf]
    simp
theorem walk_may {m c cp : Int} {o : Gl.Origin} {L : List Gl.Hop} (hm : ¬ (m < 1 ∨ 3 < m)) :
    (Gl.mayH L = false ∧ Gl.walk m c cp o L = ({}, 130)) ∨ (Gl.mayH L = true ∧ (((Gl.walk m c cp o L).2 = 131 ∧ m = 3) ∨ ((Gl.walk m c cp o L).2 = 0 ∧ 1 ≤ (Gl.walk m c cp o L).1.taint ∧ (Gl.walk m c cp o L).1.taint ≤ 3))) := by
  unfold Gl.walk
  rw [if_neg hm]
  cases hM : Gl.mayH L
  · exact Or.inl ⟨rfl, by simp⟩
  · refine Or.inr ⟨rfl, ?_⟩
    simp only [Bool.true_eq_false, if_false]
    split
    · exact Or.inr ⟨rfl, by decide, by decide⟩
    · split
      · rename_i h
        exact Or.inl ⟨rfl, h.1⟩
      · refine Or.inr ⟨rfl, ?_⟩
        unfold Gl.gotOf
        simp only
        constructor <;> (repeat' split) <;> decide
end Go.Proofs.YtbafofldgkigmaaGreatDoor
