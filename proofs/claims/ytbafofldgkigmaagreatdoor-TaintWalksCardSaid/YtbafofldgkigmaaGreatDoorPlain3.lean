/- The plain laws of layer 3: paths, ends, schemes, blobs and queries of URLs. -/
import Derived.Test.YtbafofldgkigmaaGreatDoorNorm
namespace Go.Proofs.YtbafofldgkigmaaGreatDoor

theorem web_err (u : Gl.URL) (rest : List UInt8) (h : (Gl.web u rest).2 ≠ 0) : (Gl.web u rest).1 = {} := by
  cases hp2 : ([47, 47] : List UInt8).isPrefixOf rest with
  | false => rw [web_slash _ _ hp2]
  | true =>
    cases h64 : (Gl.span [47, 63] (rest.drop 2)).1.contains 64 with
    | true => rw [web_at _ _ h64]
    | false =>
      rw [web_more _ _ hp2 h64] at h ⊢
      split
      · rfl
      · rename_i h1
        rw [if_neg h1] at h
        split
        · rename_i h2
          rw [if_pos h2] at h
          split
          · rfl
          · rename_i n hn
            rw [hn] at h
            exact absurd rfl h
        · rename_i h2
          rw [if_neg h2] at h
          exact absurd rfl h
/-- What a text is read as: nothing, a URL of another scheme, or one of http or https. -/
theorem parse_cases (s : List UInt8) :
    ((Gl.parse s).2 ≠ 0 ∧ (Gl.parse s).1 = {}) ∨
    ((Gl.parse s).2 = 0 ∧ Gl.isNet (Gl.parse s).1 = false ∧ (Gl.parse s).1 = { scheme := (Gl.parse s).1.scheme, port := -1, rest := (Gl.parse s).1.rest }) ∨
    ((Gl.parse s).2 = 0 ∧ Gl.isNet (Gl.parse s).1 = true ∧ Norm (Gl.parse s).1 ∧ (Gl.urlText (Gl.parse s).1).length ≤ s.length + 1) := by
  cases hn : Gl.isNet (Gl.parse s).1 with
  | true =>
    by_cases he : (Gl.parse s).2 = 0
    · exact Or.inr (Or.inr ⟨he, rfl, norm_of s he hn⟩)
    · refine Or.inl ⟨he, ?_⟩
      clear hn
      unfold Gl.parse at *
      generalize Gl.netText = inner at *
      by_cases h0 : 2000 < (Gl.trim s).length
      · rw [core_long _ _ h0]
      by_cases h1 : (Gl.span [58] (Gl.trim s)).2 = [] ∨ Gl.scheme (Gl.lower (Gl.span [58] (Gl.trim s)).1) = false
      · rw [core_form _ _ h1]
      have h2 : (Gl.span [58] (Gl.trim s)).2 ≠ [] := fun e => h1 (Or.inl e)
      have h3 : Gl.scheme (Gl.lower (Gl.span [58] (Gl.trim s)).1) = true := by
        cases hh : Gl.scheme (Gl.lower (Gl.span [58] (Gl.trim s)).1) with
        | true => rfl
        | false => exact absurd (Or.inr hh) h1
      rw [core_rest _ _ h0 h2 h3] at he ⊢
      split
      · rename_i hk
        rw [if_pos hk] at he
        revert he
        unfold core2
        split
        · intro _; rfl
        · split
          · exact web_err _ _
          · split
            · intro _; rfl
            · split
              · intro _; rfl
              · intro h; exact absurd rfl h
      · rfl
  | false =>
    by_cases he : (Gl.parse s).2 = 0
    · refine Or.inr (Or.inl ⟨he, rfl, ?_⟩)
      unfold Gl.parse at *
      generalize Gl.netText = inner at *
      by_cases h0 : 2000 < (Gl.trim s).length
      · rw [core_long _ _ h0] at he; cases he
      by_cases h1 : (Gl.span [58] (Gl.trim s)).2 = [] ∨ Gl.scheme (Gl.lower (Gl.span [58] (Gl.trim s)).1) = false
      · rw [core_form _ _ h1] at he; cases he
      have h2 : (Gl.span [58] (Gl.trim s)).2 ≠ [] := fun e => h1 (Or.inl e)
      have h3 : Gl.scheme (Gl.lower (Gl.span [58] (Gl.trim s)).1) = true := by
        cases hh : Gl.scheme (Gl.lower (Gl.span [58] (Gl.trim s)).1) with
        | true => rfl
        | false => exact absurd (Or.inr hh) h1
      rw [core_rest _ _ h0 h2 h3] at he hn ⊢
      split
      · rename_i hk
        rw [if_pos hk] at he hn
        have hbo := And.intro he hn
        clear he hn
        revert hbo
        unfold core2
        split
        · intro ⟨h, _⟩; cases h
        · split
          · rename_i hnet
            intro ⟨he, hn⟩
            exfalso
            cases hp2 : ([47, 47] : List UInt8).isPrefixOf (Gl.span [35] ((Gl.span [58] (Gl.trim s)).2.drop 1)).1 with
            | false => rw [web_slash _ _ hp2] at he; cases he
            | true =>
              cases h64 : (Gl.span [47, 63] ((Gl.span [35] ((Gl.span [58] (Gl.trim s)).2.drop 1)).1.drop 2)).1.contains 64 with
              | true => rw [web_at _ _ h64] at he; cases he
              | false =>
                rw [web_more _ _ hp2 h64] at he hn
                have hbo := And.intro he hn
                clear he hn
                revert hbo
                split
                · intro ⟨he, _⟩; exact absurd he (by assumption)
                · split
                  · split
                    · intro ⟨he, _⟩; cases he
                    · intro ⟨_, hn⟩; unfold Gl.isNet at hn hnet; simp only at hn hnet; rw [hn] at hnet; cases hnet
                  · intro ⟨_, hn⟩; unfold Gl.isNet at hn hnet; simp only at hn hnet; rw [hn] at hnet; cases hnet
          · split
            · intro ⟨h, _⟩; cases h
            · split
              · intro ⟨h, _⟩; cases h
              · intro _; rfl
      · rename_i hk
        rw [if_neg hk] at he; cases he
    · refine Or.inl ⟨he, ?_⟩
      unfold Gl.parse at *
      generalize Gl.netText = inner at *
      by_cases h0 : 2000 < (Gl.trim s).length
      · rw [core_long _ _ h0]
      by_cases h1 : (Gl.span [58] (Gl.trim s)).2 = [] ∨ Gl.scheme (Gl.lower (Gl.span [58] (Gl.trim s)).1) = false
      · rw [core_form _ _ h1]
      have h2 : (Gl.span [58] (Gl.trim s)).2 ≠ [] := fun e => h1 (Or.inl e)
      have h3 : Gl.scheme (Gl.lower (Gl.span [58] (Gl.trim s)).1) = true := by
        cases hh : Gl.scheme (Gl.lower (Gl.span [58] (Gl.trim s)).1) with
        | true => rfl
        | false => exact absurd (Or.inr hh) h1
      rw [core_rest _ _ h0 h2 h3] at he ⊢
      split
      · rename_i hk
        rw [if_pos hk] at he
        revert he
        unfold core2
        split
        · intro _; rfl
        · split
          · exact web_err _ _
          · split
            · intro _; rfl
            · split
              · intro _; rfl
              · intro h; exact absurd rfl h
      · rfl

/-! ### ends -/
theorem plain_ends (s : List UInt8) : Gl.parse ([10, 32, 0] ++ s ++ [9, 32]) = Gl.parse s := by
  have := trim_ends [10, 32, 0] s [9, 32] (by decide) (by decide)
  unfold Gl.parse Gl.core
  rw [this]
theorem plain_more (s more : List UInt8) (h : ∀ c ∈ s, 32 < c.toNat ∧ c ≠ 35) (hs : s.length ≤ 1000) (hm : more.length ≤ 900) (hc : ¬ ((Gl.parse s).2 = 30 ∧ (Gl.split 58 s).length = 1)) : Gl.parse (s ++ [35] ++ more) = Gl.parse s := by
  cases h58 : s.contains 58 with
  | false =>
    refine absurd ⟨?_, ?_⟩ hc
    · unfold Gl.parse
      rw [core_form]
      left
      rw [trim_good s (fun c hc => (h c hc).1), span_no _ _ (fun c hc => ?_)]
      cases he : ([58] : List UInt8).contains c with
      | false => rfl
      | true =>
        have : c = 58 := by simpa using he
        subst this
        have : s.contains 58 = true := by simpa using hc
        rw [this] at h58; cases h58
    · rw [split_none 58 s h58]; rfl
  | true =>
    obtain ⟨e, hp⟩ := span_parts 58 s h58
    generalize (Gl.span [58] s).1 = p at *
    generalize (Gl.span [58] s).2.drop 1 = r at *
    have hp58 : ∀ c ∈ p, ([58] : List UInt8).contains c = false := by
      intro c hc
      cases he : ([58] : List UInt8).contains c with
      | false => rfl
      | true =>
        have : c = 58 := by simpa using he
        subst this
        have : p.contains 58 = true := by simpa using hc
        rw [this] at hp; cases hp
    have hr35 : ∀ c ∈ r, ([35] : List UInt8).contains c = false := by
      intro c hc
      have := (h c (by rw [e]; simp [hc])).2
      simp [this]
    have t1 : Gl.trim s = s := trim_good s (fun c hc => (h c hc).1)
    have t2 : Gl.trim (s ++ [35] ++ more) = s ++ [35] ++ Gl.trimR more := trim_app (s ++ [35]) more (fun c hc => by
      rcases List.mem_append.1 hc with hc | hc
      · exact (h c hc).1
      · obtain rfl : c = 35 := by simpa using hc
        decide) (by simp)
    have s1 : Gl.span [58] (Gl.trim s) = (p, 58 :: r) := by rw [t1, e]; exact span_at _ _ _ _ hp58 rfl
    have s2 : Gl.span [58] (Gl.trim (s ++ [35] ++ more)) = (p, 58 :: (r ++ 35 :: Gl.trimR more)) := by
      rw [t2, e, show p ++ 58 :: r ++ [35] ++ Gl.trimR more = p ++ 58 :: (r ++ 35 :: Gl.trimR more) by simp]
      exact span_at _ _ _ _ hp58 rfl
    have l1 : ¬ 2000 < (Gl.trim s).length := by rw [t1]; omega
    have lm : (Gl.trimR more).length ≤ more.length := by
      unfold Gl.trimR
      have := dropWhile_len Gl.blank more.reverse
      simpa using this
    have l2 : ¬ 2000 < (Gl.trim (s ++ [35] ++ more)).length := by rw [t2]; simp; omega
    unfold Gl.parse
    by_cases hf : Gl.scheme (Gl.lower p) = false
    · rw [core_form _ s (by rw [s1]; exact Or.inr hf), core_form _ _ (by rw [s2]; exact Or.inr hf)]
    · have hf : Gl.scheme (Gl.lower p) = true := by simpa using hf
      rw [core_rest _ s l1 (by rw [s1]; simp) (by rw [s1]; exact hf), core_rest _ _ l2 (by rw [s2]; simp) (by rw [s2]; exact hf), s1, s2]
      simp only [List.drop_succ_cons, List.drop_zero]
      rw [span_no [35] r hr35, span_at [35] r 35 _ hr35 rfl]

/-! ### schemes and ports -/
theorem plain_schemes (name path : List UInt8) (hn : ∀ c ∈ name, 32 < c.toNat ∧ c ≠ 58 ∧ c ≠ 47 ∧ c ≠ 63 ∧ c ≠ 35) (hp : path = [] ∨ path.head? = some 47 ∨ path.head? = some 63) (h1 : name.length ≤ 900) (h2 : path.length ≤ 900) :
    let a := Gl.parse ([104, 116, 116, 112, 115, 58, 47, 47] ++ name ++ path)
    let b := Gl.parse ([72, 84, 84, 80, 83, 58, 47, 47] ++ name ++ [58, 52, 52, 51] ++ path)
    let c := Gl.parse ([104, 116, 116, 112, 58, 47, 47] ++ name ++ [58, 52, 52, 51] ++ path)
    a = b ∧ c.2 = a.2 ∧ (a.2 = 0 → c.1.port = 443 ∧ c.1.path = a.1.path) := by
  have key : ∀ (S sc pt : List UInt8), Gl.lower S = sc → known sc = true → Gl.scheme sc = true → (∀ c ∈ S, 32 < c.toNat ∧ c ≠ 58) → S.length ≤ 5 → (sc = Gl.http ∨ sc = Gl.https) → (∀ c ∈ pt, 32 < c.toNat ∧ c ≠ 35 ∧ badC c = false) → pt.length ≤ 4 →
      Gl.parse (S ++ [58, 47, 47] ++ name ++ pt ++ path) = if (name ++ (Gl.span [35] (Gl.trimR path)).1).any badC then ({}, 30) else Gl.web { scheme := sc, port := -1 } (47 :: 47 :: (name ++ pt ++ (Gl.span [35] (Gl.trimR path)).1)) := by
    intro S sc pt hS hk hsc hS58 hSl hnet hpt hptl
    have ht : Gl.trim (S ++ [58, 47, 47] ++ name ++ pt ++ path) = S ++ 58 :: (47 :: 47 :: (name ++ pt ++ Gl.trimR path)) := by
      rw [trim_app (S ++ [58, 47, 47] ++ name ++ pt) path]
      · simp
      · intro c hc
        simp only [List.mem_append] at hc
        rcases hc with ((hc | hc) | hc) | hc
        · exact (hS58 c hc).1
        · revert c; decide
        · exact (hn c hc).1
        · exact (hpt c hc).1
      · simp
    have lm : (Gl.trimR path).length ≤ path.length := by
      unfold Gl.trimR
      have := dropWhile_len Gl.blank path.reverse
      simpa using this
    unfold Gl.parse
    rw [core_url _ S sc _ _ hS hk hsc (fun c hc => (hS58 c hc).2) ht (by simp; omega)]
    have h35 : ∀ c ∈ 47 :: 47 :: (name ++ pt), ([35] : List UInt8).contains c = false := by
      intro c hc
      rcases List.mem_cons.1 hc with rfl | hc
      · decide
      rcases List.mem_cons.1 hc with rfl | hc
      · decide
      rcases List.mem_append.1 hc with hc | hc
      · simp [(hn c hc).2.2.2.2]
      · simp [(hpt c hc).2.1]
    have hsp := span_app [35] (47 :: 47 :: (name ++ pt)) (Gl.trimR path) h35
    rw [show 47 :: 47 :: (name ++ pt) ++ Gl.trimR path = 47 :: 47 :: (name ++ pt ++ Gl.trimR path) by simp] at hsp
    rw [hsp]
    simp only
    rw [show 47 :: 47 :: (name ++ pt) ++ (Gl.span [35] (Gl.trimR path)).1 = 47 :: 47 :: (name ++ pt ++ (Gl.span [35] (Gl.trimR path)).1) by simp]
    have hpa : pt.any badC = false := by
      rw [List.any_eq_false]; intro c hc; rw [(hpt c hc).2.2]; simp
    have hany : (47 :: 47 :: (name ++ pt ++ (Gl.span [35] (Gl.trimR path)).1)).any badC = (name ++ (Gl.span [35] (Gl.trimR path)).1).any badC := by
      rw [List.any_cons, List.any_cons, List.any_append, List.any_append, List.any_append, hpa, show badC 47 = false by decide]
      simp
    cases hb : (name ++ (Gl.span [35] (Gl.trimR path)).1).any badC with
    | true => rw [core2_bad _ _ _ (hany.trans hb)]; rfl
    | false => rw [core2_net _ _ _ (hany.trans hb) hnet]; rfl
  have ha := key [104, 116, 116, 112, 115] Gl.https [] (by decide) (by decide) (by decide) (by decide) (by decide) (Or.inr rfl) (by simp) (by simp)
  have hb := key [72, 84, 84, 80, 83] Gl.https [58, 52, 52, 51] (by decide) (by decide) (by decide) (by decide) (by decide) (Or.inr rfl) (by decide) (by decide)
  have hc := key [104, 116, 116, 112] Gl.http [58, 52, 52, 51] (by decide) (by decide) (by decide) (by decide) (by decide) (Or.inl rfl) (by decide) (by decide)
  simp only [List.append_nil] at ha
  have hB : (Gl.span [35] (Gl.trimR path)).1 = [] ∨ (Gl.span [35] (Gl.trimR path)).1.head? = some 47 ∨ (Gl.span [35] (Gl.trimR path)).1.head? = some 63 := by
    cases path with
    | nil => left; rfl
    | cons x r =>
      have hx : x = 47 ∨ x = 63 := by simpa using hp
      right
      rw [show x :: r = [x] ++ r from rfl, trimR_app [x] r (by rcases hx with rfl | rfl <;> decide), span_app [35] [x] _ (by rcases hx with rfl | rfl <;> decide)]
      simpa using hx
  have hnA : ∀ c ∈ name, c ≠ 47 ∧ c ≠ 63 ∧ c ≠ 58 := fun c hc => ⟨(hn c hc).2.2.1, (hn c hc).2.2.2.1, (hn c hc).2.1⟩
  have n443 : Gl.number [52, 52, 51] 65535 = some 443 := by decide
  have wb : ∀ sc : Gl.Bs, Gl.web { scheme := sc, port := -1 } (47 :: 47 :: (name ++ [58, 52, 52, 51] ++ (Gl.span [35] (Gl.trimR path)).1)) = _ := fun sc => web_port _ name [52, 52, 51] _ (by simp) (by decide) hnA hB
  have wa : Gl.web { scheme := Gl.https, port := -1 } (47 :: 47 :: (name ++ (Gl.span [35] (Gl.trimR path)).1)) = _ := web_name _ name _ hnA hB
  intro a b c
  have ea : a = _ := ha
  have eb : b = _ := hb
  have ec : c = _ := hc
  rw [wa] at ea
  rw [wb] at eb ec
  rw [n443] at eb ec
  simp only at ea eb ec
  rw [if_pos (show (443 : Int) = Gl.own Gl.https from rfl)] at eb
  rw [if_neg (show ¬ (443 : Int) = Gl.own Gl.http by decide)] at ec
  rw [ea, eb, ec]
  refine ⟨rfl, ?_, ?_⟩
  · split
    · rfl
    · split
      · rfl
      · split <;> rfl
  · split
    · intro h; cases h
    · split
      · intro h; cases h
      · split
        · rename_i h _; intro h'; exact absurd h' (by assumption)
        · intro _; exact ⟨rfl, rfl⟩

/-! ### blobs and queries -/
theorem plain_blobs (s : List UInt8) (hs : s.length ≤ 1000) (he : (Gl.parse s).2 = 0) (hn : Gl.isNet (Gl.parse s).1 = true) :
    Gl.parse ([98, 108, 111, 98, 58] ++ Gl.urlText (Gl.parse s).1) = ({ scheme := Gl.blob, port := -1, rest := Gl.urlText (Gl.parse s).1 }, 0) ∧
    Gl.innerOf { scheme := Gl.blob, port := -1, rest := Gl.urlText (Gl.parse s).1 } = ((Gl.parse s).1, true) ∧ Gl.innerOf (Gl.parse s).1 = ({}, false) := by
  obtain ⟨hN, hl⟩ := norm_of s he hn
  generalize (Gl.parse s).1 = u at *
  have hp := hN.parse (by omega)
  have hb := hN.text_bytes
  refine ⟨?_, ?_, ?_⟩
  · have ht : Gl.trim ([98, 108, 111, 98, 58] ++ Gl.urlText u) = [98, 108, 111, 98] ++ 58 :: Gl.urlText u := by
      refine trim_good ([98, 108, 111, 98, 58] ++ Gl.urlText u) fun c hc => ?_
      rcases List.mem_append.1 hc with hc | hc
      · have h1 : ∀ c ∈ ([98, 108, 111, 98, 58] : List UInt8), 32 < c.toNat := by decide
        exact h1 c hc
      · exact bad_big (hb c hc).1
    unfold Gl.parse
    rw [core_url _ [98, 108, 111, 98] Gl.blob _ _ (by decide) (by decide) (by decide) (by decide) ht (by simp; omega), span_no _ _ (fun c hc => by simp [(hb c hc).2])]
    have hbad : (Gl.urlText u).any badC = false := by
      rw [List.any_eq_false]; intro c hc; rw [(hb c hc).1]; simp
    simp only
    rw [core2_blob _ _ hbad]
    have : Gl.netText (Gl.urlText u) = true := by rw [net_parse, hp]; simp [hn]
    rw [this]
    simp
  · unfold Gl.innerOf
    rw [if_neg (by simp)]
    simp only [hp, hn]
    simp
  · unfold Gl.innerOf
    rw [if_pos]
    rcases hN.net with e | e <;> rw [e] <;> decide
theorem plain_queries (s q : List UInt8) (hs : s.length ≤ 900) (hq : q.length ≤ 900) (hqb : ∀ c ∈ q, badC c = false ∧ c ≠ 35) (he : (Gl.parse s).2 = 0) (hn : Gl.isNet (Gl.parse s).1 = true) (h0 : (Gl.parse s).1.hasQuery = false) :
    Gl.parse (Gl.urlText (Gl.parse s).1 ++ [63] ++ q) = ({ (Gl.parse s).1 with hasQuery := true, query := q }, 0) := by
  obtain ⟨hN, hl⟩ := norm_of s he hn
  generalize (Gl.parse s).1 = u at *
  have hN2 : Norm { u with hasQuery := true, query := q } := ⟨hN.net, hN.host, hN.port, hN.path, fun h => (by cases h), hqb, hN.rest⟩
  have ht : Gl.urlText { u with hasQuery := true, query := q } = Gl.urlText u ++ [63] ++ q := by
    rw [text_parts _ hN2.isNet, text_parts _ hN.isNet]
    unfold portT tailT
    simp [h0]
  have := hN2.parse (by rw [ht]; simp; omega)
  rw [ht] at this
  exact this
theorem plain_paths (s : List UInt8) (he : (Gl.parse s).2 = 0) (hn : Gl.isNet (Gl.parse s).1 = true) :
    ∃ L, Gl.split 47 (Gl.parse s).1.path = [] :: L ∧ L ≠ [] ∧ (∀ q ∈ [] :: L, q ≠ [46] ∧ q ≠ [46, 46]) ∧ -1 ≤ (Gl.parse s).1.port ∧ (Gl.parse s).1.port ≤ 65535 := by
  obtain ⟨hN, hl⟩ := norm_of s he hn
  generalize (Gl.parse s).1 = u at *
  obtain ⟨L, hL⟩ := hN.path
  refine ⟨L, hL.split, hL.2.1, ?_, ?_⟩
  · intro q hq
    rcases List.mem_cons.1 hq with rfl | hq
    · decide
    · exact ⟨(hL.2.2 q hq).1, (hL.2.2 q hq).2.1⟩
  · rcases hN.port with h | ⟨⟨x, hx⟩, _⟩
    · omega
    · have := number_range (by decide) hx; omega
end Go.Proofs.YtbafofldgkigmaaGreatDoor
