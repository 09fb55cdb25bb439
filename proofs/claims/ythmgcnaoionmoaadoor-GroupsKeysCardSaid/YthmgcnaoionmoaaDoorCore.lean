/- A URL from a text, case by case: the plain part. -/
import Derived.Test.YthmgcnaoionmoaaDoorWeb
namespace Go.Proofs.YthmgcnaoionmoaaDoor

def badC (c : UInt8) : Bool := decide (c.toNat < 33 ∨ 126 < c.toNat)
/-- What follows behind the scheme and the number sign. -/
def core2 (inner : Gl.Bs → Bool) (sc rest : Gl.Bs) : Gl.URL × Int :=
  if rest.any badC then ({}, 30)
  else if Gl.isNet { scheme := sc, port := -1 } then Gl.web { scheme := sc, port := -1 } rest
  else if sc = Gl.about ∧ rest ≠ Gl.bblank ∧ rest ≠ Gl.srcdoc then ({}, 30)
  else if sc = Gl.blob ∧ !Gl.nullS.isPrefixOf rest ∧ !inner rest then ({}, 30)
  else ({ scheme := sc, port := -1, rest := rest }, 0)
def known (sc : Gl.Bs) : Bool := sc == Gl.http || sc == Gl.https || sc == Gl.about || sc == Gl.data || sc == Gl.blob

theorem core_long (inner : Gl.Bs → Bool) (s : List UInt8) (h : 2000 < (Gl.trim s).length) : Gl.core inner s = ({}, 30) := by
  unfold Gl.core; simp only; rw [if_pos h]
theorem core_form (inner : Gl.Bs → Bool) (s : List UInt8) (h : (Gl.span [58] (Gl.trim s)).2 = [] ∨ Gl.scheme (Gl.lower (Gl.span [58] (Gl.trim s)).1) = false) : Gl.core inner s = ({}, 30) := by
  unfold Gl.core; simp only
  by_cases h0 : 2000 < (Gl.trim s).length
  · rw [if_pos h0]
  · rw [if_neg h0, if_pos h]
theorem core_rest (inner : Gl.Bs → Bool) (s : List UInt8) (h : ¬ 2000 < (Gl.trim s).length) (h1 : (Gl.span [58] (Gl.trim s)).2 ≠ []) (h2 : Gl.scheme (Gl.lower (Gl.span [58] (Gl.trim s)).1) = true) :
    Gl.core inner s = if known (Gl.lower (Gl.span [58] (Gl.trim s)).1) then core2 inner (Gl.lower (Gl.span [58] (Gl.trim s)).1) (Gl.span [35] ((Gl.span [58] (Gl.trim s)).2.drop 1)).1 else ({}, 31) := by
  unfold Gl.core
  simp only
  rw [if_neg h, if_neg (by rintro (h | h) <;> simp_all)]
  generalize Gl.lower (Gl.span [58] (Gl.trim s)).1 = sc
  generalize (Gl.span [35] ((Gl.span [58] (Gl.trim s)).2.drop 1)).1 = rest
  unfold known core2 Gl.isNet
  by_cases a1 : sc = Gl.http
  · subst a1; rfl
  by_cases a2 : sc = Gl.https
  · subst a2; rfl
  by_cases a3 : sc = Gl.about
  · subst a3; rfl
  by_cases a4 : sc = Gl.data
  · subst a4; rfl
  by_cases a5 : sc = Gl.blob
  · subst a5; rfl
  have b1 : (sc == Gl.http) = false := by rw [beq_eq_false_iff_ne]; exact a1
  have b2 : (sc == Gl.https) = false := by rw [beq_eq_false_iff_ne]; exact a2
  have b3 : (sc == Gl.about) = false := by rw [beq_eq_false_iff_ne]; exact a3
  have b4 : (sc == Gl.data) = false := by rw [beq_eq_false_iff_ne]; exact a4
  have b5 : (sc == Gl.blob) = false := by rw [beq_eq_false_iff_ne]; exact a5
  simp [b1, b2, b3, b4, b5, bne]
theorem core2_bad (inner : Gl.Bs → Bool) (sc rest : Gl.Bs) (h : rest.any badC = true) : core2 inner sc rest = ({}, 30) := by unfold core2; rw [if_pos h]
theorem core2_net (inner : Gl.Bs → Bool) (sc rest : Gl.Bs) (h : rest.any badC = false) (hn : sc = Gl.http ∨ sc = Gl.https) : core2 inner sc rest = Gl.web { scheme := sc, port := -1 } rest := by
  unfold core2
  rw [if_neg (by simp [h])]
  rcases hn with rfl | rfl <;> rfl
theorem core2_about (inner : Gl.Bs → Bool) (rest : Gl.Bs) (h : rest.any badC = false) : core2 inner Gl.about rest = if rest ≠ Gl.bblank ∧ rest ≠ Gl.srcdoc then ({}, 30) else ({ scheme := Gl.about, port := -1, rest := rest }, 0) := by
  unfold core2
  rw [if_neg (by simp [h]), if_neg (by decide)]
  by_cases hc : rest ≠ Gl.bblank ∧ rest ≠ Gl.srcdoc
  · rw [if_pos ⟨rfl, hc⟩, if_pos hc]
  · rw [if_neg (fun h => hc h.2), if_neg hc, if_neg (fun h => absurd h.1 (by decide))]
theorem core2_data (inner : Gl.Bs → Bool) (rest : Gl.Bs) (h : rest.any badC = false) : core2 inner Gl.data rest = ({ scheme := Gl.data, port := -1, rest := rest }, 0) := by
  unfold core2
  rw [if_neg (by simp [h]), if_neg (by decide), if_neg (fun h => absurd h.1 (by decide)), if_neg (fun h => absurd h.1 (by decide))]
theorem core2_blob (inner : Gl.Bs → Bool) (rest : Gl.Bs) (h : rest.any badC = false) : core2 inner Gl.blob rest = if Gl.nullS.isPrefixOf rest || inner rest then ({ scheme := Gl.blob, port := -1, rest := rest }, 0) else ({}, 30) := by
  unfold core2
  rw [if_neg (by simp [h]), if_neg (by decide), if_neg (fun h => absurd h.1 (by decide))]
  cases Gl.nullS.isPrefixOf rest <;> cases inner rest <;> simp
theorem known_cases {sc : Gl.Bs} (h : known sc = true) : sc = Gl.http ∨ sc = Gl.https ∨ sc = Gl.about ∨ sc = Gl.data ∨ sc = Gl.blob := by
  unfold known at h
  simp only [Bool.or_eq_true, beq_iff_eq] at h
  rcases h with (((h | h) | h) | h) | h <;> simp [h]
/-- The inner text's answer does not matter to a URL of http or https. -/
theorem net_parse (s : Gl.Bs) : Gl.netText s = ((Gl.parse s).2 == 0 && Gl.isNet (Gl.parse s).1) := by
  unfold Gl.netText Gl.parse
  by_cases h : 2000 < (Gl.trim s).length
  · rw [core_long _ _ h, core_long _ _ h]
  by_cases h1 : (Gl.span [58] (Gl.trim s)).2 = [] ∨ Gl.scheme (Gl.lower (Gl.span [58] (Gl.trim s)).1) = false
  · rw [core_form _ _ h1, core_form _ _ h1]
  have h2 : (Gl.span [58] (Gl.trim s)).2 ≠ [] := fun e => h1 (Or.inl e)
  have h3 : Gl.scheme (Gl.lower (Gl.span [58] (Gl.trim s)).1) = true := by
    cases hh : Gl.scheme (Gl.lower (Gl.span [58] (Gl.trim s)).1) with
    | true => rfl
    | false => exact absurd (Or.inr hh) h1
  rw [core_rest _ _ h h2 h3, core_rest _ _ h h2 h3]
  generalize Gl.lower (Gl.span [58] (Gl.trim s)).1 = sc
  generalize (Gl.span [35] ((Gl.span [58] (Gl.trim s)).2.drop 1)).1 = rest
  cases hk : known sc with
  | false => rfl
  | true =>
    simp only [if_true]
    cases hb : rest.any badC with
    | true => rw [core2_bad _ _ _ hb, core2_bad _ _ _ hb]
    | false =>
      rcases known_cases hk with rfl | rfl | rfl | rfl | rfl
      · rw [core2_net _ _ _ hb (Or.inl rfl), core2_net _ _ _ hb (Or.inl rfl)]
      · rw [core2_net _ _ _ hb (Or.inr rfl), core2_net _ _ _ hb (Or.inr rfl)]
      · rw [core2_about _ _ hb, core2_about _ _ hb]
      · rw [core2_data _ _ hb, core2_data _ _ hb]
      · rw [core2_blob _ _ hb, core2_blob _ _ hb]
        have e1 : Gl.isNet ({ scheme := Gl.blob, port := -1, rest := rest } : Gl.URL) = false := rfl
        have e2 : Gl.isNet ({} : Gl.URL) = false := by decide
        split <;> split <;> simp [e1, e2]
theorem dropWhile_len (p : UInt8 → Bool) (l : List UInt8) : (l.dropWhile p).length ≤ l.length := (List.dropWhile_sublist p).length_le
theorem trim_len (s : List UInt8) : (Gl.trim s).length ≤ s.length := by
  unfold Gl.trim Gl.trimR Gl.trimL
  have h1 := dropWhile_len Gl.blank s
  have h2 := dropWhile_len Gl.blank (s.dropWhile Gl.blank).reverse
  rw [List.length_reverse] at h2 ⊢
  omega
end Go.Proofs.YthmgcnaoionmoaaDoor
