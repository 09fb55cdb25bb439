/- Plain laws of source expressions. -/
import Derived.Test.YtjghhhoebdlciaaDoorSrc
import Derived.Test.YtjghhhoebdlciaaDoorTwo
namespace Go.Proofs.YtjghhhoebdlciaaDoor
theorem lower_append (a b : Gl.Bs) : Gl.lower (a ++ b) = Gl.lower a ++ Gl.lower b := by simp [Gl.lower]
/-- A byte that no scheme holds ends it. -/
theorem schLen_stop (f : Bool) (s x : Gl.Bs) (c : UInt8) (hc : Gl.isLetter c = false ∧ Gl.isDigit c = false ∧ ([43, 45, 46] : Gl.Bs).contains c = false) : Gl.schLen f (s ++ c :: x) = Gl.schLen f s := by
  induction s generalizing f with
  | nil =>
    rw [List.nil_append, schLen_cons, hc.1, hc.2.1, hc.2.2]
    simp [Gl.schLen]
  | cons a r ih =>
    rw [List.cons_append, schLen_cons, schLen_cons, ih]
theorem span_app_hit (c : UInt8) (s x : Gl.Bs) (h : s.contains c = true) : Gl.span [c] (s ++ x) = ((Gl.span [c] s).1, (Gl.span [c] s).2 ++ x) := by
  obtain ⟨e, hp⟩ := span_parts c s h
  have h2 := span_hit c s h
  unfold Gl.span at *
  simp only at *
  have hd : s.dropWhile (fun x => !([c] : Gl.Bs).contains x) ≠ [] := h2
  refine Prod.ext ?_ ?_
  · simp only
    rw [List.takeWhile_append]
    split
    · rename_i hl
      exfalso
      apply hd
      have : s.takeWhile (fun x => !([c] : Gl.Bs).contains x) ++ s.dropWhile (fun x => !([c] : Gl.Bs).contains x) = s := List.takeWhile_append_dropWhile
      have hl2 := congrArg List.length this
      rw [List.length_append, hl] at hl2
      exact List.eq_nil_of_length_eq_zero (by omega)
    · rfl
  · simp only
    rw [List.dropWhile_append]
    split
    · rename_i hl
      exact absurd (by simpa using hl) hd
    · rfl
theorem span_app_miss (c : UInt8) (s x : Gl.Bs) (h : s.contains c = false) : Gl.span [c] (s ++ x) = (s ++ (Gl.span [c] x).1, (Gl.span [c] x).2) := by
  have hall : ∀ a ∈ s, (fun x => !([c] : Gl.Bs).contains x) a = true := by
    intro a ha
    simp only [List.contains_cons, List.contains_nil, Bool.or_false, Bool.not_eq_true', beq_eq_false_iff_ne]
    intro e
    subst e
    simp at h
    exact h ha
  unfold Gl.span
  refine Prod.ext ?_ ?_
  · simp only
    rw [List.takeWhile_append_of_pos hall]
  · simp only
    rw [List.dropWhile_append_of_pos hall]
theorem number_colon (p : Gl.Bs) (most : Int) : Gl.number (p ++ [58, 42]) most = none := by
  unfold Gl.number
  split
  · rfl
  · have : ∀ (l : Gl.Bs) (n : Int), Gl.numGo most n (l ++ [58, 42]) = none := by
      intro l
      induction l with
      | nil => intro n; unfold Gl.numGo; simp
      | cons a r ih =>
        intro n
        rw [List.cons_append, Gl.numGo]
        split
        · rfl
        · split
          · rfl
          · exact ih _
    exact this p 0
/-- A host's expression with any port: where both are of hosts, it differs in the port at most. -/
theorem host_any (sch t : Gl.Bs) (h1 : (Gl.sourceHost sch t).kind = 4) (h2 : (Gl.sourceHost sch (t ++ [58, 42])).kind = 4) :
    Gl.sourceHost sch (t ++ [58, 42]) = Gl.sourceHost sch t ∨ Gl.sourceHost sch (t ++ [58, 42]) = { Gl.sourceHost sch t with port := -2 } := by
  cases h47 : t.contains 47 with
  | true =>
    left
    unfold Gl.sourceHost
    rw [span_app_hit 47 t _ h47]
  | false =>
    have e1 : Gl.span [47] t = (t, []) := span_miss 47 t h47
    have e2 : Gl.span [47] (t ++ [58, 42]) = (t ++ [58, 42], []) := by rw [span_app_miss 47 t _ h47]; rfl
    cases h58 : t.contains 58 with
    | true =>
      exfalso
      unfold Gl.sourceHost at h2
      rw [e2] at h2
      simp only at h2
      rw [span_app_hit 58 t _ h58] at h2
      simp only at h2
      have hne := span_hit 58 t h58
      have hd : ((Gl.span [58] t).2 ++ [58, 42]).drop 1 = (Gl.span [58] t).2.drop 1 ++ [58, 42] := by
        cases hq : (Gl.span [58] t).2 with
        | nil => exact absurd hq hne
        | cons a r => rfl
      rw [hd, number_colon] at h2
      split at h2
      · cases h2
      · rw [if_neg (by simp)] at h2
        rw [if_neg (by intro e; have := congrArg List.length e; simp at this)] at h2
        cases h2
    | false =>
      right
      have e3 : Gl.span [58] t = (t, []) := span_miss 58 t h58
      have e4 : Gl.span [58] (t ++ [58, 42]) = (t, [58, 42]) := by
        rw [span_app_miss 58 t _ h58]
        show (t ++ (Gl.span [58] [58, 42]).1, (Gl.span [58] [58, 42]).2) = (t, [58, 42])
        rw [show Gl.span [58] [58, 42] = ([], [58, 42]) from by decide]
        simp
      unfold Gl.sourceHost at h1 ⊢
      simp only [e1, e2, e3, e4] at h1 ⊢
      split
      · rename_i hp
        rw [if_pos hp] at h1
        cases h1
      · simp
theorem source_any (s0 : Gl.Bs) (h1 : (Gl.sourceOf s0).kind = 4) (h2 : (Gl.sourceOf (s0 ++ [58, 42])).kind = 4) :
    Gl.sourceOf (s0 ++ [58, 42]) = Gl.sourceOf s0 ∨ Gl.sourceOf (s0 ++ [58, 42]) = { Gl.sourceOf s0 with port := -2 } := by
  unfold Gl.sourceOf at h1 h2 ⊢
  rw [lower_append, show Gl.lower [58, 42] = [58, 42] from by decide] at h2 ⊢
  generalize Gl.lower s0 = s at *
  have hn : Gl.schLen true (s ++ [58, 42]) = Gl.schLen true s := schLen_stop true s [42] 58 (by decide)
  rw [hn] at h2 ⊢
  have hle := schLen_le true s
  generalize Gl.schLen true s = n at *
  split at h1
  · cases h1
  · split at h1
    · cases h1
    · rename_i hq1 hq2
      rw [if_neg hq1, if_neg hq2]
      split at h2
      · cases h2
      · split at h2
        · cases h2
        · rename_i hq3 hq4
          rw [if_neg hq3, if_neg hq4]
          unfold Gl.sourceOf1 at h1 h2 ⊢
          have hd : (s ++ [58, 42]).drop n = s.drop n ++ [58, 42] := List.drop_append_of_le_length hle
          have ht : (s ++ [58, 42]).take n = s.take n := List.take_append_of_le_length hle
          rw [hd, ht] at h2 ⊢
          have hno : ¬ (0 < n ∧ s.drop n ++ [58, 42] = [58]) := fun h => by have := congrArg List.length h.2; simp at this
          rw [if_neg hno] at h2 ⊢
          split at h1
          · cases h1
          · rename_i hq5
            rw [if_neg hq5]
            by_cases hp : 0 < n ∧ ([58, 47, 47] : Gl.Bs).isPrefixOf (s.drop n) = true
            · rw [if_pos hp] at h1 ⊢
              obtain ⟨t, htt⟩ := List.isPrefixOf_iff_prefix.1 hp.2
              have hp2 : 0 < n ∧ ([58, 47, 47] : Gl.Bs).isPrefixOf (s.drop n ++ [58, 42]) = true := ⟨hp.1, by rw [List.isPrefixOf_iff_prefix, ← htt, List.append_assoc]; exact List.prefix_append _ _⟩
              rw [if_pos hp2] at h2 ⊢
              have hd3 : (s.drop n ++ [58, 42]).drop 3 = (s.drop n).drop 3 ++ [58, 42] := by rw [← htt]; rfl
              rw [hd3] at h2 ⊢
              exact host_any _ _ h1 h2
            · have hp2 : ¬ (0 < n ∧ ([58, 47, 47] : Gl.Bs).isPrefixOf (s.drop n ++ [58, 42]) = true) := by
                intro ⟨h0, hq⟩
                obtain ⟨t, htt⟩ := List.isPrefixOf_iff_prefix.1 hq
                generalize s.drop n = d at *
                match d, htt with
                | [], htt => simp at htt
                | [a], htt => simp at htt
                | [a, b], htt => simp at htt
                | a :: b :: c :: r, htt =>
                  simp at htt
                  exact hp ⟨h0, by obtain ⟨rfl, rfl, rfl, _⟩ := htt; rfl⟩
              rw [if_neg hp] at h1 ⊢
              rw [if_neg hp2] at h2 ⊢
              exact host_any _ _ h1 h2
theorem match_any (s : Gl.Source) (o self : Gl.Origin) (hk : s.kind = 4) (h : Gl.matchS s o self = true) : Gl.matchS { s with port := -2 } o self = true := by
  unfold Gl.matchS at h ⊢
  simp only [hk] at h ⊢
  split at h
  · cases h
  · rename_i hq
    rw [if_neg hq]
    simp only [Int.reduceEq, if_false, if_true, Bool.and_eq_true] at h ⊢
    refine ⟨⟨h.1.1, ?_⟩, h.2⟩
    unfold Gl.portM
    simp
/-- 'name:*' means no fewer than 'name', where both are hosts' expressions. -/
theorem any_port (name : Gl.Bs) (o self : Gl.Origin) : (!((Gl.sourceOf name).kind == 4 && (Gl.sourceOf (name ++ [58, 42])).kind == 4) || !Gl.anyS [name] o self || Gl.anyS [name ++ [58, 42]] o self) = true := by
  cases h1 : ((Gl.sourceOf name).kind == 4)
  · rfl
  · cases h2 : ((Gl.sourceOf (name ++ [58, 42])).kind == 4)
    · rfl
    · simp only [beq_iff_eq] at h1 h2
      simp only [Bool.and_true, Bool.not_true, Bool.false_or, Gl.anyS, List.any_cons, List.any_nil, Bool.or_false]
      cases hm : Gl.matchS (Gl.sourceOf name) o self
      · rfl
      · simp only [Bool.not_true, Bool.false_or]
        rcases source_any name h1 h2 with e | e
        · rw [e, hm]
        · rw [e]; exact match_any _ o self h1 hm
theorem src_http : Gl.sourceOf [104, 116, 116, 112, 58] = { kind := 3, scheme := Gl.http } := by decide
theorem src_https : Gl.sourceOf [104, 116, 116, 112, 115, 58] = { kind := 3, scheme := Gl.https } := by decide
theorem any_http (o self : Gl.Origin) : Gl.anyS [[104, 116, 116, 112, 58]] o self = (!o.opaq && (o.scheme == Gl.http || o.scheme == Gl.https)) := by
  simp only [Gl.anyS, List.any_cons, List.any_nil, Bool.or_false, src_http, Gl.matchS, Gl.together]
  cases o.opaq
  · simp [Bool.beq_comm, BEq.comm]
  · rfl
theorem any_https (o self : Gl.Origin) : Gl.anyS [[104, 116, 116, 112, 115, 58]] o self = ((!o.opaq && (o.scheme == Gl.http || o.scheme == Gl.https)) && o.scheme == Gl.https) := by
  simp only [Gl.anyS, List.any_cons, List.any_nil, Bool.or_false, src_https, Gl.matchS, Gl.together]
  cases o.opaq
  · simp only [Bool.false_eq_true, if_false, Bool.not_false, Bool.true_and]
    rw [show (Gl.https == Gl.http) = false from by decide, Bool.false_and, Bool.or_false, BEq.comm]
    cases (o.scheme == Gl.https) <;> simp
  · rfl
end Go.Proofs.YtjghhhoebdlciaaDoor
