/- Plain laws of origins as their own expressions. -/
import Derived.Test.YtjghhhoebdlciaaDoorPlain4
import Derived.Test.YtjghhhoebdlciaaDoorPlain11
namespace Go.Proofs.YtjghhhoebdlciaaDoor
theorem origin_cases (s : Gl.Bs) (id : Int) (he : (Gl.parse s).2 = 0) : Gl.originOf (Gl.parse s).1 id = { opaq := true, id := id } ∨ ∃ v, Norm v ∧ Gl.originOf (Gl.parse s).1 id = netO v := by
  cases hn : Gl.isNet (Gl.parse s).1 with
  | true =>
    right
    have h := (norm_of s he hn).1
    exact ⟨_, h, h.origin id⟩
  | false =>
    generalize (Gl.parse s).1 = u at *
    by_cases hi : (Gl.innerOf u).2 = true
    · right
      have hp : (Gl.parse u.rest).2 = 0 ∧ Gl.isNet (Gl.parse u.rest).1 = true ∧ (Gl.innerOf u).1 = (Gl.parse u.rest).1 := by
        unfold Gl.innerOf at hi ⊢
        split at hi
        · cases hi
        · rename_i h1
          split at hi
          · cases hi
          · rename_i h2
            rw [if_neg h1, if_neg h2]
            refine ⟨?_, ?_, rfl⟩
            · exact Decidable.byContradiction fun h => h2 (Or.inl h)
            · exact Bool.of_not_eq_false fun h => h2 (Or.inr h)
      have h := (norm_of _ hp.1 hp.2.1).1
      refine ⟨_, h, ?_⟩
      unfold Gl.originOf Gl.origOf
      rw [if_pos hi, hp.2.2, hp.2.1]
      rfl
    · left
      unfold Gl.originOf Gl.origOf
      rw [if_neg hi, if_pos hn]
theorem Norm.fits {u : Gl.URL} (h : Norm u) : (netO u).host.addr < 4294967296 ∧ (netO u).host.name.length ≤ 2147483647 := by
  obtain ⟨n, hn⟩ := h.host
  exact ⟨(host_back n _ hn).2.1, by have := h.name_len; show u.host.name.length ≤ _; omega⟩
theorem any_opaq (L : List Gl.Bs) (o self : Gl.Origin) (h : o.opaq = true) : Gl.anyS L o self = false := by
  unfold Gl.anyS
  rw [List.any_eq_false]
  intro s _
  unfold Gl.matchS
  rw [if_pos h]
  simp
theorem src_self : Gl.sourceOf [39, 83, 69, 76, 70, 39] = { kind := 1 } := by decide
theorem src_star : Gl.sourceOf [42] = { kind := 2 } := by decide
theorem orig_same (a : Gl.Origin) : Gl.originSame a a = true := by
  unfold Gl.originSame
  cases a.opaq <;> simp
theorem any_self (o : Gl.Origin) (h : o.opaq = false) : Gl.anyS [[39, 83, 69, 76, 70, 39]] o o = true ∧ Gl.anyS [[42]] o o = true := by
  simp only [Gl.anyS, List.any_cons, List.any_nil, Bool.or_false, src_self, src_star, Gl.matchS, h, Bool.false_eq_true, if_false, Gl.selfM, orig_same, Bool.true_or]
  exact ⟨rfl, rfl⟩
theorem any_scheme (o self : Gl.Origin) (h : o.opaq = false) (hs : o.scheme = Gl.http ∨ o.scheme = Gl.https) : Gl.anyS [o.scheme ++ [58]] o self = true := by
  have : Gl.sourceOf (o.scheme ++ [58]) = { kind := 3, scheme := o.scheme } := by rcases hs with e | e <;> rw [e] <;> decide
  simp only [Gl.anyS, List.any_cons, List.any_nil, Bool.or_false, this, Gl.matchS, h, Bool.false_eq_true, if_false, Gl.together, beq_self_eq_true, Bool.true_or]
  rfl
theorem host_lower {n : Gl.Bs} {h : Gl.Host} (hn : Gl.hostParse n = (h, 0)) : Gl.pattern (Gl.hostText h) = true ∧ Gl.lower (Gl.hostText h) = Gl.hostText h := by
  unfold Gl.hostParse at hn
  obtain ⟨e, ha, hc⟩ := hostOf_back _ _ hn
  rw [e, lower_lower]
  refine ⟨?_, rfl⟩
  generalize Gl.lower n = s at *
  have hd : Gl.domain s = true := by
    unfold Gl.hostOf at hn
    unfold Gl.domain
    split at hn
    · injection hn with _ h2; cases h2
    · rename_i hl
      rw [decide_eq_true (by omega), Bool.true_and]
      unfold Gl.host1 at hn
      split at hn
      · injection hn with _ h2; cases h2
      · rename_i hx
        simpa using hx
  unfold Gl.pattern
  have hno : ([42, 46] : Gl.Bs).isPrefixOf s = false := by
    cases hp : ([42, 46] : Gl.Bs).isPrefixOf s with
    | false => rfl
    | true =>
      obtain ⟨t, ht⟩ := List.isPrefixOf_iff_prefix.1 hp
      have := hc 42 (by rw [← ht]; simp)
      exact absurd this (by unfold hostC; decide)
  rw [hno, if_neg (by simp), hd, Bool.or_true]
theorem fold_scheme {sc : Gl.Bs} (h : sc = Gl.http ∨ sc = Gl.https) : Gl.lower sc = sc ∧ Gl.schLen true sc = sc.length ∧ 0 < sc.length := by rcases h with e | e <;> rw [e] <;> decide
/-- The expression that an origin's text is, with what stands behind a stroke. -/
theorem src_text {u : Gl.URL} (h : Norm u) (x : Gl.Bs) (hx : x = [] ∨ x.head? = some 47) (hxl : Gl.lower x = x) :
    Gl.sourceOf (Gl.originText (netO u) ++ x) = { kind := 4, scheme := u.scheme, host := Gl.hostText u.host, port := if 0 ≤ u.port then u.port else -1 } := by
  obtain ⟨n, hn⟩ := h.host
  obtain ⟨hpat, hlow⟩ := host_lower hn
  have hhb := h.host_bytes
  obtain ⟨l1, l2, l3⟩ := fold_scheme h.net
  have hpt : (0 ≤ u.port ∧ ∃ y, Gl.number y 65535 = some u.port ∧ portT u = 58 :: y) ∨ (¬ 0 ≤ u.port ∧ portT u = []) := by
    by_cases h0 : 0 ≤ u.port
    · left
      obtain ⟨⟨y, hy⟩, -⟩ : (∃ y, Gl.number y 65535 = some u.port) ∧ u.port ≠ Gl.own u.scheme := by
        rcases h.port with h | h
        · omega
        · exact h
      exact ⟨h0, y, hy, by unfold portT; rw [if_pos h0, number_itoa hy]⟩
    · right
      exact ⟨h0, by unfold portT; rw [if_neg h0]⟩
  have hlp : Gl.lower (portT u) = portT u := by
    rcases hpt with ⟨_, y, hy, e⟩ | ⟨_, e⟩
    · rw [e]
      have hb := number_bytes hy
      unfold Gl.lower
      conv => rhs; rw [← List.map_id (58 :: y)]
      apply List.map_congr_left
      intro c hc
      unfold Gl.low
      rw [if_neg]
      · rfl
      · rcases List.mem_cons.1 hc with rfl | hc
        · decide
        · have := hb c hc; omega
    · rw [e]; rfl
  have hlow2 : Gl.lower (Gl.originText (netO u) ++ x) = u.scheme ++ 58 :: 47 :: 47 :: (Gl.hostText u.host ++ portT u ++ x) := by
    rw [h.otext, lower_append, hxl, lower_append, l1]
    have : Gl.lower (58 :: 47 :: 47 :: (Gl.hostText u.host ++ portT u)) = 58 :: 47 :: 47 :: (Gl.hostText u.host ++ portT u) := by
      show Gl.low 58 :: Gl.low 47 :: Gl.low 47 :: Gl.lower (Gl.hostText u.host ++ portT u) = _
      rw [lower_append, hlow, hlp]
      rfl
    rw [this]
    simp
  unfold Gl.sourceOf
  rw [hlow2, if_neg (by rcases h.net with e | e <;> rw [e] <;> intro hh <;> cases hh), if_neg (by rcases h.net with e | e <;> rw [e] <;> intro hh <;> cases hh)]
  have hsl : Gl.schLen true (u.scheme ++ 58 :: 47 :: 47 :: (Gl.hostText u.host ++ portT u ++ x)) = u.scheme.length := by rw [schLen_stop true _ _ 58 (by decide), l2]
  rw [hsl]
  unfold Gl.sourceOf1
  rw [List.drop_left, List.take_left, if_neg (by intro hh; have := hh.2; cases this), if_pos ⟨l3, by rfl⟩]
  show Gl.sourceHost u.scheme (Gl.hostText u.host ++ portT u ++ x) = _
  unfold Gl.sourceHost
  have h47 : ∀ c ∈ Gl.hostText u.host ++ portT u, ([47] : Gl.Bs).contains c = false := by
    intro c hc
    rcases List.mem_append.1 hc with hc | hc
    · have := (hhb c hc).2.2.1; simpa using fun e => this e
    · have := (h.port_bytes c hc).2.2.1; simpa using fun e => this e
  have e1 : (Gl.span [47] (Gl.hostText u.host ++ portT u ++ x)).1 = Gl.hostText u.host ++ portT u := by
    rw [span_app [47] _ x h47]
    rcases hx with rfl | hx
    · simp [Gl.span]
    · cases x with
      | nil => cases hx
      | cons a r =>
        injection hx with hx
        subst hx
        rw [span_hd [47] 47 r (by decide)]
        simp
  have h58 : ∀ c ∈ Gl.hostText u.host, ([58] : Gl.Bs).contains c = false := by
    intro c hc
    have := (hhb c hc).2.2.2.2.2; simpa using fun e => this e
  rw [e1]
  rcases hpt with ⟨h0, y, hy, e⟩ | ⟨h0, e⟩
  · rw [e, span_at [58] _ 58 y h58 (by decide)]
    simp only [hpat, Bool.true_eq_false, if_false, List.drop_succ_cons, List.drop_zero]
    have hy42 : y ≠ [42] := by rintro rfl; simp [Gl.number, Gl.numGo] at hy
    rw [if_neg (by simp), if_neg hy42, hy, if_pos h0]
  · rw [e, List.append_nil, span_no [58] _ h58]
    simp only [hpat, Bool.true_eq_false, if_false]
    rw [if_pos trivial, if_neg h0]
theorem text_means {u : Gl.URL} (h : Norm u) (x : Gl.Bs) (hx : x = [] ∨ x.head? = some 47) (hxl : Gl.lower x = x) (self : Gl.Origin) : Gl.anyS [Gl.originText (netO u) ++ x] (netO u) self = true := by
  simp only [Gl.anyS, List.any_cons, List.any_nil, Bool.or_false, src_text h x hx hxl]
  have hp : Gl.portM { kind := 4, scheme := u.scheme, host := Gl.hostText u.host, port := if 0 ≤ u.port then u.port else -1 } (netO u) = true := by
    unfold Gl.portM
    simp only
    by_cases h0 : 0 ≤ u.port
    · rw [if_pos h0]
      have : (netO u).port = u.port := by unfold netO; simp only; rw [if_neg (by omega)]
      rw [this]
      simp
    · rw [if_neg h0, h.own, decide_eq_true (by omega)]
      simp
  have hne : u.scheme ≠ [] := by rcases h.net with e | e <;> rw [e] <;> decide
  unfold Gl.matchS
  rw [if_neg (by simp [netO]), if_neg (by simp), if_neg (by simp), if_neg (by simp), if_pos rfl]
  simp only [Gl.fitsM, ne_eq, hne, not_false_eq_true, if_true, hp, Gl.together, Gl.named]
  simp [netO]
theorem web_scheme_len (u : Gl.URL) (rest : Gl.Bs) : (Gl.web u rest).1.scheme.length ≤ u.scheme.length := by
  unfold Gl.web
  simp only
  split
  · simp
  · split
    · simp
    · split
      · simp
      · split
        · split <;> simp
        · simp
theorem parse_scheme_len (s : Gl.Bs) : (Gl.parse s).1.scheme.length ≤ s.length := by
  have ht := trim_len s
  have h1 := span_len [58] (Gl.trim s)
  have h2 := lower_length (Gl.span [58] (Gl.trim s)).1
  unfold Gl.parse Gl.core
  simp only
  split
  · simp
  · split
    · simp
    · split
      · simp
      · split
        · simp
        · split
          · have := web_scheme_len { scheme := Gl.lower (Gl.span [58] (Gl.trim s)).1, port := -1 } (Gl.span [35] ((Gl.span [58] (Gl.trim s)).2.drop 1)).1
            simp only at this
            omega
          · split
            · simp
            · split
              · simp
              · simp only; omega
end Go.Proofs.YtjghhhoebdlciaaDoor
