/- Origins of URLs that are read: the plain laws. -/
import Derived.Test.YtbafofldgkigmaaGreatDoorPlain3b
import Derived.Test.YtbafofldgkigmaaGreatDoorFour
namespace Go.Proofs.YtbafofldgkigmaaGreatDoor

theorem Norm.web_with {u : Gl.URL} (h : Norm u) (B : List UInt8) (hB : B = [] ∨ B.head? = some 47 ∨ B.head? = some 63) :
    Gl.web { scheme := u.scheme, port := -1 } (47 :: 47 :: (Gl.hostText u.host ++ portT u ++ B)) = (mkU { scheme := u.scheme, port := -1 } u.host u.port B, 0) := by
  obtain ⟨n, hn⟩ := h.host
  obtain ⟨hh, -, -, -⟩ := host_back n _ hn
  have hhb := h.host_bytes
  have hA : ∀ c ∈ Gl.hostText u.host, c ≠ 47 ∧ c ≠ 63 ∧ c ≠ 58 := fun c hc => ⟨(hhb c hc).2.2.1, (hhb c hc).2.2.2.1, (hhb c hc).2.2.2.2.2⟩
  have h64 : (Gl.hostText u.host).contains 64 = false := by
    cases hc : (Gl.hostText u.host).contains 64 with
    | false => rfl
    | true => exact absurd rfl (hhb 64 (by simpa using hc)).2.2.2.2.1
  by_cases h0 : 0 ≤ u.port
  · obtain ⟨⟨x, hx⟩, hne⟩ : (∃ x, Gl.number x 65535 = some u.port) ∧ u.port ≠ Gl.own u.scheme := by
      rcases h.port with h | h
      · omega
      · exact h
    have hpt : portT u = 58 :: x := by unfold portT; rw [if_pos h0, number_itoa hx]
    have hx0 : x ≠ [] := by rintro rfl; simp [Gl.number] at hx
    have hxb : ∀ c ∈ x, c ≠ 47 ∧ c ≠ 63 ∧ c ≠ 64 := fun c hc => by have := digit_no (number_bytes hx c hc); exact ⟨this.2.2.1, this.2.2.2.1, this.2.2.2.2.1⟩
    rw [hpt, web_port _ _ x _ hx0 hxb hA hB, h64, hh, hx]
    simp only [Bool.false_eq_true, if_false, ne_eq, not_true_eq_false]
    rw [if_neg hne]
  · have hp : u.port = -1 := by
      rcases h.port with h | ⟨⟨x, hx⟩, _⟩
      · exact h
      · have := number_range (by decide) hx; omega
    have hpt : portT u = [] := by unfold portT; rw [if_neg h0]
    rw [hpt, List.append_nil, web_name _ _ _ hA hB, h64, hh]
    simp only [Bool.false_eq_true, if_false, ne_eq, not_true_eq_false]
    rw [hp]
theorem Norm.no_inner {u : Gl.URL} (h : Norm u) : Gl.innerOf u = ({}, false) := by
  unfold Gl.innerOf
  rw [if_pos]
  rcases h.net with e | e <;> rw [e] <;> decide
def netO (u : Gl.URL) : Gl.Origin := { scheme := u.scheme, host := u.host, port := if u.port < 0 then Gl.own u.scheme else u.port }
theorem Norm.origin {u : Gl.URL} (h : Norm u) (id : Int) : Gl.originOf u id = netO u := by
  unfold Gl.originOf Gl.origOf
  rw [h.no_inner]
  simp only [Bool.false_eq_true, if_false]
  rw [h.isNet]
  rfl
theorem Norm.own {u : Gl.URL} (h : Norm u) : Gl.ownPort (netO u) = decide (u.port < 0) := by
  unfold Gl.ownPort netO
  have e1 : (Gl.http == Gl.https) = false := by decide
  have e2 : (Gl.https == Gl.http) = false := by decide
  have hp := h.port
  rcases h.net with e | e <;> rw [e] at hp ⊢ <;> simp only [e1, e2, beq_self_eq_true, Bool.true_and, Bool.false_and, Bool.or_false, Bool.false_or]
  · have eo : Gl.own Gl.http = 80 := by decide
    rw [eo] at hp ⊢
    rcases hp with hp | ⟨⟨x, hx⟩, hp⟩
    · rw [hp]; rfl
    · have := number_range (by decide) hx
      rw [if_neg (by omega)]
      simp only [show ¬ u.port < 0 by omega, decide_false, beq_eq_false_iff_ne]
      exact hp
  · have eo : Gl.own Gl.https = 443 := by decide
    rw [eo] at hp ⊢
    rcases hp with hp | ⟨⟨x, hx⟩, hp⟩
    · rw [hp]; rfl
    · have := number_range (by decide) hx
      rw [if_neg (by omega)]
      simp only [show ¬ u.port < 0 by omega, decide_false, beq_eq_false_iff_ne]
      exact hp
theorem Norm.otext {u : Gl.URL} (h : Norm u) : Gl.originText (netO u) = u.scheme ++ 58 :: 47 :: 47 :: (Gl.hostText u.host ++ portT u) := by
  unfold Gl.originText
  rw [h.own]
  unfold portT
  by_cases h0 : 0 ≤ u.port
  · rw [if_pos h0, if_neg (by simp [netO])]
    have : decide (u.port < 0) = false := by simp; omega
    rw [this]
    simp [netO, show ¬ u.port < 0 by omega]
  · rw [if_neg h0, if_neg (by simp [netO])]
    have : decide (u.port < 0) = true := by simp; omega
    rw [this]
    simp [netO]
theorem Norm.oparse {u : Gl.URL} (h : Norm u) (hl : (Gl.originText (netO u)).length ≤ 2000) : Gl.parse (Gl.originText (netO u)) = (mkU { scheme := u.scheme, port := -1 } u.host u.port [], 0) := by
  obtain ⟨h1, h2, h3, h4, -⟩ := h.sch
  have hb : ∀ c ∈ 47 :: 47 :: (Gl.hostText u.host ++ portT u), badC c = false ∧ c ≠ 35 := by
    intro c hc
    refine h.rest_bytes c ?_
    simp only [List.mem_cons, List.mem_append] at hc ⊢
    rcases hc with h | h | h | h <;> simp [h]
  rw [h.otext] at hl ⊢
  have ht := trim_good (u.scheme ++ 58 :: 47 :: 47 :: (Gl.hostText u.host ++ portT u)) (fun c hc => by
    rcases List.mem_append.1 hc with hc | hc
    · have : c ∈ Gl.urlText u := by rw [text_parts u h.isNet]; exact List.mem_append_left _ hc
      exact bad_big (h.text_bytes c this).1
    · rcases List.mem_cons.1 hc with rfl | hc
      · decide
      · exact bad_big (hb c hc).1)
  have hany : (47 :: 47 :: (Gl.hostText u.host ++ portT u)).any badC = false := by
    rw [List.any_eq_false]; intro c hc; rw [(hb c hc).1]; simp
  unfold Gl.parse
  rw [core_url _ u.scheme u.scheme _ _ h1 h2 h3 h4 ht hl, span_no _ _ (fun c hc => by simp [(hb c hc).2]), core2_net _ _ _ hany h.net]
  have := h.web_with [] (Or.inl rfl)
  rw [List.append_nil] at this
  exact this
theorem Norm.oback {u : Gl.URL} (h : Norm u) (id : Int) : Gl.originOf (mkU { scheme := u.scheme, port := -1 } u.host u.port []) id = netO u := by
  have hi : Gl.innerOf (mkU { scheme := u.scheme, port := -1 } u.host u.port []) = ({}, false) := by
    unfold Gl.innerOf
    rw [if_pos]
    show u.scheme ≠ Gl.blob
    rcases h.net with e | e <;> rw [e] <;> decide
  have hn : Gl.isNet (mkU { scheme := u.scheme, port := -1 } u.host u.port []) = true := h.isNet
  unfold Gl.originOf Gl.origOf
  rw [hi]
  simp only [Bool.false_eq_true, if_false]
  rw [hn]
  rfl
theorem same_self (a : Gl.Origin) : Gl.originSame a a = true := by
  unfold Gl.originSame
  cases a.opaq <;> simp
theorem netO_same {u v : Gl.URL} (hu : Norm u) (hv : Norm v) (hl : (Gl.originText (netO u)).length ≤ 1900) : Gl.originSame (netO u) (netO v) = (Gl.originText (netO u) == Gl.originText (netO v)) := by
  rw [Bool.eq_iff_iff, beq_iff_eq]
  constructor
  · intro h
    unfold Gl.originSame at h
    simp only [netO, Bool.false_and, Bool.false_eq_true, if_false, Bool.not_false, Bool.true_and, Bool.and_eq_true, beq_iff_eq] at h
    have e : netO u = netO v := by
      unfold netO
      obtain ⟨⟨h1, h2⟩, h3⟩ := h
      rw [h3, h1, h2]
    rw [e]
  · intro h
    have h1 := hu.oparse (by omega)
    have h2 := hv.oparse (by rw [← h]; omega)
    rw [← h, h1] at h2
    have h3 : mkU { scheme := u.scheme, port := -1 } u.host u.port [] = mkU { scheme := v.scheme, port := -1 } v.host v.port [] := congrArg Prod.fst h2
    have a1 : u.scheme = v.scheme := by have := congrArg (fun x : Gl.URL => x.scheme) h3; exact this
    have a2 : u.host = v.host := by have := congrArg (fun x : Gl.URL => x.host) h3; exact this
    have a3 : u.port = v.port := by have := congrArg (fun x : Gl.URL => x.port) h3; exact this
    have e : netO u = netO v := by unfold netO; rw [a1, a2, a3]
    rw [e]
    exact same_self _
end Go.Proofs.YtbafofldgkigmaaGreatDoor
