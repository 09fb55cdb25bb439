/- The law OriginBlobs, walked. -/
import Derived.Test.YthmgcnaoionmoaaDoorAwake4
import Derived.Test.YthmgcnaoionmoaaDoorPlain3b
import Derived.Deep.RegionHeld3

namespace Go.Proofs.YthmgcnaoionmoaaDoor

theorem Norm.web_with {u : Gl.URL} (h : Norm u) (B : List UInt8) (hB : B = [] ∨ B.head? = some 47 ∨ B.head? = some 63) :
    Gl.web { scheme := u.scheme, port := -1 } (47 :: 47 :: (Gl.hostText u.host ++ portT u ++ B)) = (mkU { scheme := u.scheme, port := -1 } u.host u.port B, 0) := by
  obtain ⟨n, hn⟩ := h.host
  obtain ⟨hh, -, -, -⟩ := host_back n _ hn
  have hhb := h.host_bytes
  have hA : ∀ c ∈ Gl.hostText u.host, c ≠ 47 ∧ c ≠ 63 ∧ c ≠ 58 := fun c hc => ⟨(hhb c hc).2.2.1, (hhb c hc).2.2.2.1, (hhb c hc).2.2.2.2.2⟩
  have h64 : (Gl.hostText u.host).contains 64 = false := by
    cases hc : (Gl.hostText u.host).contains 64 with
    | false => rfl
    | true => exact absurd rfl (hhb 64 (by simpa using hc)).2.2.2.2.1
  by_cases h0 : 0 ≤ u.port
  · obtain ⟨⟨x, hx⟩, hne⟩ : (∃ x, Gl.number x 65535 = some u.port) ∧ u.port ≠ Gl.own u.scheme := by
      rcases h.port with h | h
      · omega
      · exact h
    have hpt : portT u = 58 :: x := by unfold portT; rw [if_pos h0, number_itoa hx]
    have hx0 : x ≠ [] := by rintro rfl; simp [Gl.number] at hx
    have hxb : ∀ c ∈ x, c ≠ 47 ∧ c ≠ 63 ∧ c ≠ 64 := fun c hc => by have := digit_no (number_bytes hx c hc); exact ⟨this.2.2.1, this.2.2.2.1, this.2.2.2.2.1⟩
    rw [hpt, web_port _ _ x _ hx0 hxb hA hB, h64, hh, hx]
    simp only [Bool.false_eq_true, if_false, ne_eq, not_true_eq_false]
    rw [if_neg hne]
  · have hp : u.port = -1 := by
      rcases h.port with h | ⟨⟨x, hx⟩, _⟩
      · exact h
      · have := number_range (by decide) hx; omega
    have hpt : portT u = [] := by unfold portT; rw [if_neg h0]
    rw [hpt, List.append_nil, web_name _ _ _ hA hB, h64, hh]
    simp only [Bool.false_eq_true, if_false, ne_eq, not_true_eq_false]
    rw [hp]
theorem Norm.no_inner {u : Gl.URL} (h : Norm u) : Gl.innerOf u = ({}, false) := by
  unfold Gl.innerOf
  rw [if_pos]
  rcases h.net with e | e <;> rw [e] <;> decide
def netO (u : Gl.URL) : Gl.Origin := { scheme := u.scheme, host := u.host, port := if u.port < 0 then Gl.own u.scheme else u.port }
theorem Norm.origin {u : Gl.URL} (h : Norm u) (id : Int) : Gl.originOf u id = netO u := by
  unfold Gl.originOf Gl.origOf
  rw [h.no_inner]
  simp only [Bool.false_eq_true, if_false]
  rw [h.isNet]
  rfl
theorem Norm.own {u : Gl.URL} (h : Norm u) : Gl.ownPort (netO u) = decide (u.port < 0) := by
  unfold Gl.ownPort netO
  have e1 : (Gl.http == Gl.https) = false := by decide
  have e2 : (Gl.https == Gl.http) = false := by decide
  have hp := h.port
  rcases h.net with e | e <;> rw [e] at hp ⊢ <;> simp only [e1, e2, beq_self_eq_true, Bool.true_and, Bool.false_and, Bool.or_false, Bool.false_or]
  · have eo : Gl.own Gl.http = 80 := by decide
    rw [eo] at hp ⊢
    rcases hp with hp | ⟨⟨x, hx⟩, hp⟩
    · rw [hp]; rfl
    · have := number_range (by decide) hx
      rw [if_neg (by omega)]
      simp only [show ¬ u.port < 0 by omega, decide_false, beq_eq_false_iff_ne]
      exact hp
  · have eo : Gl.own Gl.https = 443 := by decide
    rw [eo] at hp ⊢
    rcases hp with hp | ⟨⟨x, hx⟩, hp⟩
    · rw [hp]; rfl
    · have := number_range (by decide) hx
      rw [if_neg (by omega)]
      simp only [show ¬ u.port < 0 by omega, decide_false, beq_eq_false_iff_ne]
      exact hp
theorem Norm.otext {u : Gl.URL} (h : Norm u) : Gl.originText (netO u) = u.scheme ++ 58 :: 47 :: 47 :: (Gl.hostText u.host ++ portT u) := by
  unfold Gl.originText
  rw [h.own]
  unfold portT
  by_cases h0 : 0 ≤ u.port
  · rw [if_pos h0, if_neg (by simp [netO])]
    have : decide (u.port < 0) = false := by simp; omega
    rw [this]
    simp [netO, show ¬ u.port < 0 by omega]
  · rw [if_neg h0, if_neg (by simp [netO])]
    have : decide (u.port < 0) = true := by simp; omega
    rw [this]
    simp [netO]
theorem Norm.oparse {u : Gl.URL} (h : Norm u) (hl : (Gl.originText (netO u)).length ≤ 2000) : Gl.parse (Gl.originText (netO u)) = (mkU { scheme := u.scheme, port := -1 } u.host u.port [], 0) := by
  obtain ⟨h1, h2, h3, h4, -⟩ := h.sch
  have hb : ∀ c ∈ 47 :: 47 :: (Gl.hostText u.host ++ portT u), badC c = false ∧ c ≠ 35 := by
    intro c hc
    refine h.rest_bytes c ?_
    simp only [List.mem_cons, List.mem_append] at hc ⊢
    rcases hc with h | h | h | h <;> simp [h]
  rw [h.otext] at hl ⊢
  have ht := trim_good (u.scheme ++ 58 :: 47 :: 47 :: (Gl.hostText u.host ++ portT u)) (fun c hc => by
    rcases List.mem_append.1 hc with hc | hc
    · have : c ∈ Gl.urlText u := by rw [text_parts u h.isNet]; exact List.mem_append_left _ hc
      exact bad_big (h.text_bytes c this).1
    · rcases List.mem_cons.1 hc with rfl | hc
      · decide
      · exact bad_big (hb c hc).1)
  have hany : (47 :: 47 :: (Gl.hostText u.host ++ portT u)).any badC = false := by
    rw [List.any_eq_false]; intro c hc; rw [(hb c hc).1]; simp
  unfold Gl.parse
  rw [core_url _ u.scheme u.scheme _ _ h1 h2 h3 h4 ht hl, span_no _ _ (fun c hc => by simp [(hb c hc).2]), core2_net _ _ _ hany h.net]
  have := h.web_with [] (Or.inl rfl)
  rw [List.append_nil] at this
  exact this
theorem Norm.oback {u : Gl.URL} (h : Norm u) (id : Int) : Gl.originOf (mkU { scheme := u.scheme, port := -1 } u.host u.port []) id = netO u := by
  have hi : Gl.innerOf (mkU { scheme := u.scheme, port := -1 } u.host u.port []) = ({}, false) := by
    unfold Gl.innerOf
    rw [if_pos]
    show u.scheme ≠ Gl.blob
    rcases h.net with e | e <;> rw [e] <;> decide
  have hn : Gl.isNet (mkU { scheme := u.scheme, port := -1 } u.host u.port []) = true := h.isNet
  unfold Gl.originOf Gl.origOf
  rw [hi]
  simp only [Bool.false_eq_true, if_false]
  rw [hn]
  rfl
theorem same_self (a : Gl.Origin) : Gl.originSame a a = true := by
  unfold Gl.originSame
  cases a.opaq <;> simp
theorem netO_same {u v : Gl.URL} (hu : Norm u) (hv : Norm v) (hl : (Gl.originText (netO u)).length ≤ 1900) : Gl.originSame (netO u) (netO v) = (Gl.originText (netO u) == Gl.originText (netO v)) := by
  rw [Bool.eq_iff_iff, beq_iff_eq]
  constructor
  · intro h
    unfold Gl.originSame at h
    simp only [netO, Bool.false_and, Bool.false_eq_true, if_false, Bool.not_false, Bool.true_and, Bool.and_eq_true, beq_iff_eq] at h
    have e : netO u = netO v := by
      unfold netO
      obtain ⟨⟨h1, h2⟩, h3⟩ := h
      rw [h3, h1, h2]
    rw [e]
  · intro h
    have h1 := hu.oparse (by omega)
    have h2 := hv.oparse (by rw [← h]; omega)
    rw [← h, h1] at h2
    have h3 : mkU { scheme := u.scheme, port := -1 } u.host u.port [] = mkU { scheme := v.scheme, port := -1 } v.host v.port [] := congrArg Prod.fst h2
    have a1 : u.scheme = v.scheme := by have := congrArg (fun x : Gl.URL => x.scheme) h3; exact this
    have a2 : u.host = v.host := by have := congrArg (fun x : Gl.URL => x.host) h3; exact this
    have a3 : u.port = v.port := by have := congrArg (fun x : Gl.URL => x.port) h3; exact this
    have e : netO u = netO v := by unfold netO; rw [a1, a2, a3]
    rw [e]
    exact same_self _

theorem trimR_prefix (s : List UInt8) : ∃ e, s = Gl.trimR s ++ e := by
  have h1 : s.reverse = s.reverse.takeWhile Gl.blank ++ s.reverse.dropWhile Gl.blank := List.takeWhile_append_dropWhile.symm
  have h2 := congrArg List.reverse h1
  rw [List.reverse_reverse, List.reverse_append] at h2
  exact ⟨_, h2⟩
theorem span_full (of l : List UInt8) : (Gl.span of l).1 ++ (Gl.span of l).2 = l := List.takeWhile_append_dropWhile
theorem scheme_no35 (x : List UInt8) (h : 35 ∈ x) : Gl.scheme (Gl.lower x) = false := by
  have key : ∀ (l : List UInt8) (f : Bool), 35 ∈ l → Gl.schemeGo f (Gl.lower l) = false := by
    intro l
    induction l with
    | nil => intro f h; cases h
    | cons a r ih =>
      intro f h
      show (_ && Gl.schemeGo false (Gl.lower r)) = false
      rcases List.mem_cons.1 h with rfl | h
      · have : (Gl.isLetter (Gl.low 35) || (!f && (Gl.isDigit (Gl.low 35) || [43, 45, 46].contains (Gl.low 35)))) = false := by cases f <;> decide
        rw [this]; rfl
      · rw [ih false h, Bool.and_false]
  unfold Gl.scheme
  rw [key x true h, Bool.and_false]
theorem blob_inner (s : List UInt8) (he : (Gl.parse s).2 = 0) (hb : (Gl.parse ([98, 108, 111, 98, 58] ++ s)).2 = 0) :
    (Gl.parse ([98, 108, 111, 98, 58] ++ s)).1.scheme = Gl.blob ∧ Gl.parse (Gl.parse ([98, 108, 111, 98, 58] ++ s)).1.rest = Gl.parse s ∧ (Gl.parse ([98, 108, 111, 98, 58] ++ s)).1.rest.length ≤ s.length := by
  have ht : Gl.trim ([98, 108, 111, 98, 58] ++ s) = [98, 108, 111, 98] ++ 58 :: Gl.trimR s := trim_app [98, 108, 111, 98, 58] s (by decide) (by simp)
  obtain ⟨e, hse⟩ := trimR_prefix s
  have hsp := span_full [35] (Gl.trimR s)
  have hlT : (Gl.trimR s).length ≤ s.length := by
    have h := congrArg List.length hse
    rw [List.length_append] at h
    omega
  by_cases hl : 2000 < (Gl.trim ([98, 108, 111, 98, 58] ++ s)).length
  · unfold Gl.parse at hb; rw [core_long _ _ hl] at hb; cases hb
  rw [ht] at hl
  have hP : Gl.parse ([98, 108, 111, 98, 58] ++ s) = core2 Gl.netText Gl.blob (Gl.span [35] (Gl.trimR s)).1 := by
    unfold Gl.parse
    exact core_url _ [98, 108, 111, 98] Gl.blob _ _ (by decide) (by decide) (by decide) (by decide) ht (by omega)
  rw [hP] at hb ⊢
  have h35 := (span_mem [35] (Gl.trimR s)).1
  have hhd := span_head [35] (Gl.trimR s)
  generalize hr : (Gl.span [35] (Gl.trimR s)).1 = rest at *
  generalize htl : (Gl.span [35] (Gl.trimR s)).2 = tail at *
  have h35 : ∀ c ∈ rest, c ≠ 35 := fun c hc => by have := (h35 c hc).2; simpa using this
  cases hbad : rest.any badC with
  | true => rw [core2_bad _ _ _ hbad] at hb; cases hb
  | false =>
    rw [core2_blob _ _ hbad] at hb ⊢
    split
    · have hgood : ∀ c ∈ rest, 32 < c.toNat := fun c hc => by
        have := List.any_eq_false.1 hbad c hc
        exact bad_big (by simpa using this)
      have hrl : rest.length ≤ (Gl.trimR s).length := by rw [← hsp]; simp
      refine ⟨rfl, ?_, by show rest.length ≤ _; omega⟩
      show Gl.parse rest = Gl.parse s
      have htr : Gl.trim rest = rest := trim_good rest hgood
      -- s opens with rest
      have hts : rest ≠ [] → Gl.trim s = rest ++ tail := by
        intro hne
        cases hrest : rest with
        | nil => exact absurd hrest hne
        | cons a q =>
          have ha := hgood a (by rw [hrest]; simp)
          have hs : s = a :: (q ++ tail ++ e) := by rw [hse, ← hsp, hrest]; simp
          have hL : Gl.trimL s = s := by
            unfold Gl.trimL
            rw [hs, List.dropWhile_cons, blank_no ha]
            simp
          unfold Gl.trim
          rw [hL, ← hsp, hrest]
      cases h58 : rest.contains 58 with
      | false =>
        exfalso
        have h58' : ∀ c ∈ rest, ([58] : List UInt8).contains c = false := fun c hc => by
          cases hh : ([58] : List UInt8).contains c with
          | false => rfl
          | true =>
            obtain rfl : c = 58 := by simpa using hh
            have : rest.contains 58 = true := by simpa using hc
            rw [this] at h58; cases h58
        have hbadp : (Gl.span [58] (Gl.trim s)).2 = [] ∨ Gl.scheme (Gl.lower (Gl.span [58] (Gl.trim s)).1) = false := by
          have htail : tail = [] ∨ ∃ q, tail = 35 :: q := by
            rcases hhd with h | ⟨c, h, hc⟩
            · exact Or.inl h
            · cases tail with
              | nil => exact Or.inl rfl
              | cons a q =>
                obtain rfl : a = c := by simpa using h
                obtain rfl : a = 35 := by simpa using hc
                exact Or.inr ⟨q, rfl⟩
          by_cases hne : rest = []
          · subst hne
            simp only [List.nil_append] at hsp
            rcases htail with h | ⟨q, h⟩
            · rw [h] at hsp
              left
              have hblank : Gl.trim s = [] := by
                have h1 : s = [] ++ s := rfl
                have hall : ∀ c ∈ s, Gl.blank c = true := by
                  have h2 : s.reverse.dropWhile Gl.blank = [] := by
                    have h3 := hsp
                    unfold Gl.trimR at h3
                    simpa using h3.symm
                  intro c hc
                  have h4 : s.reverse = s.reverse.takeWhile Gl.blank ++ s.reverse.dropWhile Gl.blank := List.takeWhile_append_dropWhile.symm
                  rw [h2, List.append_nil] at h4
                  have h5 : c ∈ s.reverse.takeWhile Gl.blank := by rw [← h4]; simpa using hc
                  have h6 := List.all_eq_true.1 (List.all_takeWhile (p := Gl.blank) (l := s.reverse)) c h5
                  exact h6
                have h7 := trim_ends s [] [] (by simpa using hall) rfl
                simpa [Gl.trim, Gl.trimL, Gl.trimR] using h7
              rw [hblank]; rfl
            · right
              have hs : s = 35 :: (q ++ e) := by rw [hse, ← hsp, h]; simp
              have hL : Gl.trimL s = s := by
                unfold Gl.trimL
                rw [hs, List.dropWhile_cons, blank_no (by decide)]
                simp
              have hts2 : Gl.trim s = 35 :: q := by unfold Gl.trim; rw [hL, ← hsp, h]
              rw [hts2]
              have h8 := span_app [58] [35] q (by decide)
              rw [show 35 :: q = [35] ++ q from rfl, h8]
              exact scheme_no35 _ (by simp)
          · rw [hts hne]
            rcases htail with h | ⟨q, h⟩
            · left
              rw [h, List.append_nil, span_no [58] rest h58']
            · right
              rw [h, show rest ++ 35 :: q = (rest ++ [35]) ++ q by simp, span_app [58] (rest ++ [35]) q (fun c hc => by
                rcases List.mem_append.1 hc with hc | hc
                · exact h58' c hc
                · obtain rfl : c = 35 := by simpa using hc
                  decide)]
              exact scheme_no35 _ (by simp)
        unfold Gl.parse at he
        rw [core_form _ _ hbadp] at he
        cases he
      | true =>
        obtain ⟨heq, hp⟩ := span_parts 58 rest h58
        generalize (Gl.span [58] rest).1 = p at *
        generalize (Gl.span [58] rest).2.drop 1 = r at *
        have hp58 : ∀ c ∈ p, ([58] : List UInt8).contains c = false := fun c hc => by
          cases hh : ([58] : List UInt8).contains c with
          | false => rfl
          | true =>
            obtain rfl : c = 58 := by simpa using hh
            have : p.contains 58 = true := by simpa using hc
            rw [this] at hp; cases hp
        have hr35 : ∀ c ∈ r, ([35] : List UInt8).contains c = false := fun c hc => by
          have := h35 c (by rw [heq]; simp [hc])
          simp [this]
        have hne : rest ≠ [] := by rw [heq]; simp
        have hts := hts hne
        have s1 : Gl.span [58] (Gl.trim rest) = (p, 58 :: r) := by rw [htr, heq]; exact span_at _ _ _ _ hp58 rfl
        have s2 : Gl.span [58] (Gl.trim s) = (p, 58 :: (r ++ tail)) := by
          rw [hts, heq, show p ++ 58 :: r ++ tail = p ++ 58 :: (r ++ tail) by simp]
          exact span_at _ _ _ _ hp58 rfl
        have s3 : (Gl.span [35] (r ++ tail)).1 = r := by
          rcases hhd with h | ⟨c, h, hc⟩
          · rw [h, List.append_nil, span_no _ _ hr35]
          · cases tail with
            | nil => cases h
            | cons a q =>
              obtain rfl : a = c := by simpa using h
              rw [span_at _ _ _ _ hr35 hc]
        have l2 : ¬ 2000 < (Gl.trim s).length := by
          rw [hts, hsp]
          simp at hl
          omega
        have l1 : ¬ 2000 < (Gl.trim rest).length := by
          rw [htr]
          rw [hts] at l2
          simp at l2
          omega
        unfold Gl.parse
        by_cases hf : Gl.scheme (Gl.lower p) = false
        · rw [core_form _ rest (by rw [s1]; exact Or.inr hf), core_form _ s (by rw [s2]; exact Or.inr hf)]
        · have hf : Gl.scheme (Gl.lower p) = true := by simpa using hf
          rw [core_rest _ rest l1 (by rw [s1]; simp) (by rw [s1]; exact hf), core_rest _ s l2 (by rw [s2]; simp) (by rw [s2]; exact hf), s1, s2]
          simp only [List.drop_succ_cons, List.drop_zero]
          rw [s3, span_no [35] r hr35]
    · rename_i hq
      rw [if_neg hq] at hb
      cases hb
theorem blob_origin (s : List UInt8) (id : Int) (he : (Gl.parse s).2 = 0) (hn : Gl.isNet (Gl.parse s).1 = true) (hb : (Gl.parse ([98, 108, 111, 98, 58] ++ s)).2 = 0) :
    Gl.originOf (Gl.parse ([98, 108, 111, 98, 58] ++ s)).1 id = Gl.originOf (Gl.parse s).1 id := by
  obtain ⟨h1, h2, _⟩ := blob_inner s he hb
  obtain ⟨hN, _⟩ := norm_of s he hn
  have hi : Gl.innerOf (Gl.parse ([98, 108, 111, 98, 58] ++ s)).1 = ((Gl.parse s).1, true) := by
    unfold Gl.innerOf
    rw [h1, if_neg (by simp), h2, if_neg]
    rw [he, hn]
    simp
  rw [hN.origin id]
  unfold Gl.originOf
  rw [hi]
  simp only [if_true]
  have := hN.origin id
  unfold Gl.originOf at this
  rw [hN.no_inner] at this
  simpa using this
open Go.RowKit
attribute [local irreducible] Calls

theorem netO_wide2 {u : Gl.URL} (h : Norm u) : OWide (netO u) := by
  obtain ⟨n, hn⟩ := h.host
  obtain ⟨-, ha, -, -⟩ := host_back n _ hn
  have h1 := h.name_len
  have h2 := h.sch.2.2.2.2
  refine ⟨⟨ha, by show u.host.name.length ≤ _; omega⟩, by show u.scheme.length ≤ _; omega, ?_⟩
  have ho : 0 ≤ Gl.own u.scheme ∧ Gl.own u.scheme ≤ 443 := by unfold Gl.own; split <;> decide
  show _ ≤ (if u.port < 0 then Gl.own u.scheme else u.port) ∧ (if u.port < 0 then Gl.own u.scheme else u.port) ≤ _
  rcases h.port with hp | ⟨⟨x, hx⟩, _⟩
  · rw [if_pos (by omega)]; omega
  · have := number_range (by decide) hx
    rw [if_neg (by omega)]; omega
theorem site_self2 (a : Gl.Origin) (S : List Gl.Bs) : Gl.sameSite a a S = true := by
  unfold Gl.sameSite
  split
  · exact same_self a
  · simp
set_option maxHeartbeats 8000000 in
set_option maxRecDepth 100000 in
theorem law4_blobs (s : List UInt8) (id : Int) (v : Value) (S : List (List UInt8)) (w : World) (hE : Env w) (hs0 : s.length ≤ 1048576) (hv : Strs w w.heap.size v S) : Calls Tryd.prog 15 #[(Value.string ⟨(s).toArray⟩), .int .i64 id, v] w (Ret w (.bool true)) := by
  have hsm : ∀ W, Below w.heap.size w W → Calls Tryd.prog 30 #[v] W (Ret W (.bool (smallS S))) := fun W hW => (law4_small v S W _ (hv.keep hW)).mono (fun _ _ h => h.ret)
  have hsmo := @small_out S
  have hvc := hv
  obtain ⟨vA, vc, hve, hv1, hv2, _⟩ := hv
  unfold maxLen at hv2
  have hp : ∀ W, Below w.heap.size w W → Calls Tryd.prog 20 #[(Value.string ⟨(s).toArray⟩)] W (Ret W (.tuple #[(Value.agg #[(Value.string ⟨(((Gl.parse s).1).scheme).toArray⟩), (Value.string ⟨((((Gl.parse s).1).host).name).toArray⟩), (Value.bool (((Gl.parse s).1).host).v4), (Value.int .u32 ((((Gl.parse s).1).host).addr : Int)), (Value.int .i64 ((Gl.parse s).1).port), (Value.string ⟨(((Gl.parse s).1).path).toArray⟩), (Value.bool ((Gl.parse s).1).hasQuery), (Value.string ⟨(((Gl.parse s).1).query).toArray⟩), (Value.string ⟨(((Gl.parse s).1).rest).toArray⟩)]), .int .i64 (Gl.parse s).2])) := fun W hW => urlp_parse s W (by omega) (hE.below hW)
  by_cases hg : s.length ≤ 1000 ∧ (Gl.parse s).2 = 0 ∧ Gl.isNet (Gl.parse s).1 = true ∧ smallS S = true
  · obtain ⟨hl, h1, h2, h3⟩ := hg
    obtain ⟨hs1, hs2⟩ := hsmo h3
    rw [h3] at hsm
    have hSu : Sufs w v S := ⟨hvc, by omega, fun s hs => by have := hs2 s hs; omega⟩
    obtain ⟨hU, _⟩ := norm_of s h1 h2
    have hq : ∀ W, Below w.heap.size w W → _ := fun W hW => urlp_parse (98 :: 108 :: 111 :: 98 :: 58 :: s) W (by simp; omega) (hE.below hW)
    have hrl := parse_rest_len ([98, 108, 111, 98, 58] ++ s)
    have hbo := blob_origin s id h1 h2
    rw [show 98 :: 108 :: 111 :: 98 :: 58 :: s = [98, 108, 111, 98, 58] ++ s from rfl] at hq
    have ho : ∀ W, Below w.heap.size w W → _ := fun W hW => origin_of (Gl.parse s).1 id W (hE.below hW) (by rw [hU.rest]; simp)
    have hpo0 : (Gl.parse ([98, 108, 111, 98, 58] ++ s)).2 = 0 → ∀ W, Below w.heap.size w W → Calls Tryd.prog 39 #[(Value.agg #[(Value.string ⟨(((Gl.parse ([98, 108, 111, 98, 58] ++ s)).1).scheme).toArray⟩), (Value.string ⟨((((Gl.parse ([98, 108, 111, 98, 58] ++ s)).1).host).name).toArray⟩), (Value.bool (((Gl.parse ([98, 108, 111, 98, 58] ++ s)).1).host).v4), (Value.int .u32 ((((Gl.parse ([98, 108, 111, 98, 58] ++ s)).1).host).addr : Int)), (Value.int .i64 ((Gl.parse ([98, 108, 111, 98, 58] ++ s)).1).port), (Value.string ⟨(((Gl.parse ([98, 108, 111, 98, 58] ++ s)).1).path).toArray⟩), (Value.bool ((Gl.parse ([98, 108, 111, 98, 58] ++ s)).1).hasQuery), (Value.string ⟨(((Gl.parse ([98, 108, 111, 98, 58] ++ s)).1).query).toArray⟩), (Value.string ⟨(((Gl.parse ([98, 108, 111, 98, 58] ++ s)).1).rest).toArray⟩)]), .int .i64 id] W (Ret W ((Value.agg #[(Value.bool (Gl.originOf (Gl.parse s).1 id).opaq), (Value.int .i64 (Gl.originOf (Gl.parse s).1 id).id), (Value.string ⟨((Gl.originOf (Gl.parse s).1 id).scheme).toArray⟩), (Value.string ⟨(((Gl.originOf (Gl.parse s).1 id).host).name).toArray⟩), (Value.bool ((Gl.originOf (Gl.parse s).1 id).host).v4), (Value.int .u32 (((Gl.originOf (Gl.parse s).1 id).host).addr : Int)), (Value.int .i64 (Gl.originOf (Gl.parse s).1 id).port)]))) := fun h W hW => by
      have := origin_of (Gl.parse ([98, 108, 111, 98, 58] ++ s)).1 id W (hE.below hW) (by simp at hrl ⊢; omega)
      rw [hbo h] at this
      exact this
    have hwo := netO_wide2 hU
    rw [hU.origin id] at ho hpo0
    have hss : ∀ W, Below w.heap.size w W → _ := fun W hW => origin_same_site (netO (Gl.parse s).1) (netO (Gl.parse s).1) v S W (hE.below hW) hwo.fits hwo.fits (hSu.below hW)
    rw [site_self2] at hss
    have ht : ∀ W, Below w.heap.size w W → _ := fun W hW => origin_text (netO (Gl.parse s).1) W (hE.below hW) hwo
    have hn : ∀ W, Calls Tryd.prog 26 #[(Value.agg #[(Value.string ⟨(((Gl.parse s).1).scheme).toArray⟩), (Value.string ⟨((((Gl.parse s).1).host).name).toArray⟩), (Value.bool (((Gl.parse s).1).host).v4), (Value.int .u32 ((((Gl.parse s).1).host).addr : Int)), (Value.int .i64 ((Gl.parse s).1).port), (Value.string ⟨(((Gl.parse s).1).path).toArray⟩), (Value.bool ((Gl.parse s).1).hasQuery), (Value.string ⟨(((Gl.parse s).1).query).toArray⟩), (Value.string ⟨(((Gl.parse s).1).rest).toArray⟩)])] W (Ret W (.bool true)) := fun W => h2 ▸ urlp_net (Gl.parse s).1 W
    rw [h1] at hp
    clear hbo hrl hU h1 h2 h3 hsmo hs2 hwo
    generalize Gl.originText (netO (Gl.parse s).1) = tx at *
    generalize netO (Gl.parse s).1 = o at *
    generalize (Gl.parse s).1 = u at *
    generalize Gl.parse ([98, 108, 111, 98, 58] ++ s) = pb at *
    obtain ⟨b, fb⟩ := pb
    simp only at hq hpo0
    subst hve
    clear hSu hvc
    replace hsm := Lib.hid hsm
    replace hp := Lib.hid hp
    replace hq := Lib.hid hq
    replace ho := Lib.hid ho
    replace hpo0 := Lib.hid hpo0
    replace hss := Lib.hid hss
    replace ht := Lib.hid ht
    replace hn := Lib.hid hn
    go_enter Tryd.func15, Tryd.ntmps15
    go_upto_region 2 with (go_at_call 29; refine ( awake4 _ (hE.below (by (repeat' first | (with_reducible exact Below.refl _ _) | (with_reducible refine Below.setCell ?_ (by first | omega | (simp; done) | (simp; omega)) _) | (with_reducible refine Below.alloc ?_ (by first | omega | (simp; done) | (simp; omega)) _) | refine below_drewN ?_ _ | refine Below.drew ?_ | (refine below_thru (by assumption) ?_ (by first | omega | (simp; done) | (simp; omega))) | exact Below.refl _ _)))).mono ?_; rintro e w1 ⟨rfl, hb⟩; obtain ⟨hc, hfz⟩ := bcell hb; have hz := hb.size; (try simp at hz); (try have hz0 : w.heap.size < w1.heap.size := by omega); (try have hz1 : w.heap.size + 1 < w1.heap.size := by omega); (try have hz2 : w.heap.size + 2 < w1.heap.size := by omega); (try have hz3 : w.heap.size + 3 < w1.heap.size := by omega); (try have hcA := fun o => hc w.heap.size o (by first | omega | (simp; omega))); (try have hcB := fun o => hc (w.heap.size + 1) o (by first | omega | (simp; omega))); (try have hcGg := fun o => hc g o (by first | omega | (simp; omega))); (try have hfGg := fun o => hfz g o (by first | omega | (simp; omega))); (try have hzGg : g < w1.heap.size := by omega); (try have hcGgA := fun o => hc gA o (by first | omega | (simp; omega))); (try have hfGgA := fun o => hfz gA o (by first | omega | (simp; omega))); (try have hzGgA : gA < w1.heap.size := by omega); (try have hcGgB := fun o => hc gB o (by first | omega | (simp; omega))); (try have hfGgB := fun o => hfz gB o (by first | omega | (simp; omega))); (try have hzGgB : gB < w1.heap.size := by omega); (try have hcGgC := fun o => hc gC o (by first | omega | (simp; omega))); (try have hfGgC := fun o => hfz gC o (by first | omega | (simp; omega))); (try have hzGgC : gC < w1.heap.size := by omega); (try have hcGgD := fun o => hc gD o (by first | omega | (simp; omega))); (try have hfGgD := fun o => hfz gD o (by first | omega | (simp; omega))); (try have hzGgD : gD < w1.heap.size := by omega); (try have hcGgE := fun o => hc gE o (by first | omega | (simp; omega))); (try have hfGgE := fun o => hfz gE o (by first | omega | (simp; omega))); (try have hzGgE : gE < w1.heap.size := by omega); (try have hcGgF := fun o => hc gF o (by first | omega | (simp; omega))); (try have hfGgF := fun o => hfz gF o (by first | omega | (simp; omega))); (try have hzGgF : gF < w1.heap.size := by omega); (try have hcGgV := fun o => hc gV o (by first | omega | (simp; omega))); (try have hfGgV := fun o => hfz gV o (by first | omega | (simp; omega))); (try have hzGgV : gV < w1.heap.size := by omega))
    go_cut [8] from 16 (fun p w' => p = .bool true ∧ Below w.heap.size w w')
    case first =>
      go_wp2_with (go_at_call 30; refine ( hsm.out _ (by (repeat' first | (with_reducible exact Below.refl _ _) | (with_reducible refine Below.setCell ?_ (by first | omega | (simp; done) | (simp; omega)) _) | (with_reducible refine Below.alloc ?_ (by first | omega | (simp; done) | (simp; omega)) _) | refine below_drewN ?_ _ | refine Below.drew ?_ | (refine below_thru (by assumption) ?_ (by first | omega | (simp; done) | (simp; omega))) | exact Below.refl _ _))).mono ?_; rintro e w1 ⟨rfl, hb⟩; obtain ⟨hc, hfz⟩ := bcell hb; have hz := hb.size; (try simp at hz); (try have hz0 : w.heap.size < w1.heap.size := by omega); (try have hz1 : w.heap.size + 1 < w1.heap.size := by omega); (try have hz2 : w.heap.size + 2 < w1.heap.size := by omega); (try have hz3 : w.heap.size + 3 < w1.heap.size := by omega); (try have hcA := fun o => hc w.heap.size o (by first | omega | (simp; omega))); (try have hcB := fun o => hc (w.heap.size + 1) o (by first | omega | (simp; omega))); (try have hcGg := fun o => hc g o (by first | omega | (simp; omega))); (try have hfGg := fun o => hfz g o (by first | omega | (simp; omega))); (try have hzGg : g < w1.heap.size := by omega); (try have hcGgA := fun o => hc gA o (by first | omega | (simp; omega))); (try have hfGgA := fun o => hfz gA o (by first | omega | (simp; omega))); (try have hzGgA : gA < w1.heap.size := by omega); (try have hcGgB := fun o => hc gB o (by first | omega | (simp; omega))); (try have hfGgB := fun o => hfz gB o (by first | omega | (simp; omega))); (try have hzGgB : gB < w1.heap.size := by omega); (try have hcGgC := fun o => hc gC o (by first | omega | (simp; omega))); (try have hfGgC := fun o => hfz gC o (by first | omega | (simp; omega))); (try have hzGgC : gC < w1.heap.size := by omega); (try have hcGgD := fun o => hc gD o (by first | omega | (simp; omega))); (try have hfGgD := fun o => hfz gD o (by first | omega | (simp; omega))); (try have hzGgD : gD < w1.heap.size := by omega); (try have hcGgE := fun o => hc gE o (by first | omega | (simp; omega))); (try have hfGgE := fun o => hfz gE o (by first | omega | (simp; omega))); (try have hzGgE : gE < w1.heap.size := by omega); (try have hcGgF := fun o => hc gF o (by first | omega | (simp; omega))); (try have hfGgF := fun o => hfz gF o (by first | omega | (simp; omega))); (try have hzGgF : gF < w1.heap.size := by omega); (try have hcGgV := fun o => hc gV o (by first | omega | (simp; omega))); (try have hfGgV := fun o => hfz gV o (by first | omega | (simp; omega))); (try have hzGgV : gV < w1.heap.size := by omega))
      go_meet
      case rel => exact ⟨rfl, by (repeat' first | (with_reducible exact Below.refl _ _) | (with_reducible refine Below.setCell ?_ (by first | omega | (simp; done) | (simp; omega)) _) | (with_reducible refine Below.alloc ?_ (by first | omega | (simp; done) | (simp; omega)) _) | refine below_drewN ?_ _ | refine Below.drew ?_ | (refine below_thru (by assumption) ?_ (by first | omega | (simp; done) | (simp; omega))) | exact Below.refl _ _)⟩
    case rest =>
      obtain ⟨rfl, hw⟩ := hcut
      go_upto_region 3 with fail
      go_cut [9, 10] from 16 (fun p e w' => ∃ gA, p = .pointer (some ⟨gA, 0, none⟩) ∧ e = .int .i64 0 ∧ w.heap.size ≤ gA ∧ Below w.heap.size w w' ∧ Blk w' gA 27 #[(Value.string ⟨((u).scheme).toArray⟩), (Value.string ⟨(((u).host).name).toArray⟩), (Value.bool ((u).host).v4), (Value.int .u32 (((u).host).addr : Int)), (Value.int .i64 (u).port), (Value.string ⟨((u).path).toArray⟩), (Value.bool (u).hasQuery), (Value.string ⟨((u).query).toArray⟩), (Value.string ⟨((u).rest).toArray⟩)])
      case first =>
        have hws := hw.size
        go_wp2_with (go_at_call 20; refine ( hp.out _ (by (repeat' first | (with_reducible exact Below.refl _ _) | (with_reducible refine Below.setCell ?_ (by first | omega | (simp; done) | (simp; omega)) _) | (with_reducible refine Below.alloc ?_ (by first | omega | (simp; done) | (simp; omega)) _) | refine below_drewN ?_ _ | refine Below.drew ?_ | (refine below_thru (by assumption) ?_ (by first | omega | (simp; done) | (simp; omega))) | exact Below.refl _ _))).mono ?_; rintro e w1 ⟨rfl, hb⟩; obtain ⟨hc, hfz⟩ := bcell hb; have hz := hb.size; (try simp at hz); (try have hz0 : w.heap.size < w1.heap.size := by omega); (try have hz1 : w.heap.size + 1 < w1.heap.size := by omega); (try have hz2 : w.heap.size + 2 < w1.heap.size := by omega); (try have hz3 : w.heap.size + 3 < w1.heap.size := by omega); (try have hcA := fun o => hc w.heap.size o (by first | omega | (simp; omega))); (try have hcB := fun o => hc (w.heap.size + 1) o (by first | omega | (simp; omega))); (try have hcGg := fun o => hc g o (by first | omega | (simp; omega))); (try have hfGg := fun o => hfz g o (by first | omega | (simp; omega))); (try have hzGg : g < w1.heap.size := by omega); (try have hcGgA := fun o => hc gA o (by first | omega | (simp; omega))); (try have hfGgA := fun o => hfz gA o (by first | omega | (simp; omega))); (try have hzGgA : gA < w1.heap.size := by omega); (try have hcGgB := fun o => hc gB o (by first | omega | (simp; omega))); (try have hfGgB := fun o => hfz gB o (by first | omega | (simp; omega))); (try have hzGgB : gB < w1.heap.size := by omega); (try have hcGgC := fun o => hc gC o (by first | omega | (simp; omega))); (try have hfGgC := fun o => hfz gC o (by first | omega | (simp; omega))); (try have hzGgC : gC < w1.heap.size := by omega); (try have hcGgD := fun o => hc gD o (by first | omega | (simp; omega))); (try have hfGgD := fun o => hfz gD o (by first | omega | (simp; omega))); (try have hzGgD : gD < w1.heap.size := by omega); (try have hcGgE := fun o => hc gE o (by first | omega | (simp; omega))); (try have hfGgE := fun o => hfz gE o (by first | omega | (simp; omega))); (try have hzGgE : gE < w1.heap.size := by omega); (try have hcGgF := fun o => hc gF o (by first | omega | (simp; omega))); (try have hfGgF := fun o => hfz gF o (by first | omega | (simp; omega))); (try have hzGgF : gF < w1.heap.size := by omega); (try have hcGgV := fun o => hc gV o (by first | omega | (simp; omega))); (try have hfGgV := fun o => hfz gV o (by first | omega | (simp; omega))); (try have hzGgV : gV < w1.heap.size := by omega))
        go_meet
        case rel => exact ⟨_, rfl, rfl, by first | omega | (simp; omega), by (repeat' first | (with_reducible exact Below.refl _ _) | (with_reducible refine Below.setCell ?_ (by first | omega | (simp; done) | (simp; omega)) _) | (with_reducible refine Below.alloc ?_ (by first | omega | (simp; done) | (simp; omega)) _) | refine below_drewN ?_ _ | refine Below.drew ?_ | (refine below_thru (by assumption) ?_ (by first | omega | (simp; done) | (simp; omega))) | exact Below.refl _ _), by (repeat' first | (with_reducible assumption) | (with_reducible exact Blk.new _ _ _) | (with_reducible refine Blk.drew_ ?_) | (with_reducible refine Blk.alloc ?_ _) | (refine Blk.below ?_ (by assumption) (by first | omega | (simp; done) | (simp; omega))))⟩
      case rest =>
        clear hw
        obtain ⟨gA, rfl, rfl, hgA, hw, hBA⟩ := hcut
        go_upto_region 4 with fail
        go_cut [11] from 16 (fun p w' => p = .bool true ∧ Below w.heap.size w w' ∧ Blk w' gA 27 #[(Value.string ⟨((u).scheme).toArray⟩), (Value.string ⟨(((u).host).name).toArray⟩), (Value.bool ((u).host).v4), (Value.int .u32 (((u).host).addr : Int)), (Value.int .i64 (u).port), (Value.string ⟨((u).path).toArray⟩), (Value.bool (u).hasQuery), (Value.string ⟨((u).query).toArray⟩), (Value.string ⟨((u).rest).toArray⟩)])
        case first =>
          have hAl := hBA.lt
          have hAc := hBA.cell
          have hAf := hBA.frozen
          go_wp2_with (go_at_call 26; refine ( hn.out _).mono ?_; rintro e w1 ⟨rfl, hb⟩; obtain ⟨hc, hfz⟩ := bcell hb; have hz := hb.size; (try simp at hz); (try have hz0 : w.heap.size < w1.heap.size := by omega); (try have hz1 : w.heap.size + 1 < w1.heap.size := by omega); (try have hz2 : w.heap.size + 2 < w1.heap.size := by omega); (try have hz3 : w.heap.size + 3 < w1.heap.size := by omega); (try have hcA := fun o => hc w.heap.size o (by first | omega | (simp; omega))); (try have hcB := fun o => hc (w.heap.size + 1) o (by first | omega | (simp; omega))); (try have hcGg := fun o => hc g o (by first | omega | (simp; omega))); (try have hfGg := fun o => hfz g o (by first | omega | (simp; omega))); (try have hzGg : g < w1.heap.size := by omega); (try have hcGgA := fun o => hc gA o (by first | omega | (simp; omega))); (try have hfGgA := fun o => hfz gA o (by first | omega | (simp; omega))); (try have hzGgA : gA < w1.heap.size := by omega); (try have hcGgB := fun o => hc gB o (by first | omega | (simp; omega))); (try have hfGgB := fun o => hfz gB o (by first | omega | (simp; omega))); (try have hzGgB : gB < w1.heap.size := by omega); (try have hcGgC := fun o => hc gC o (by first | omega | (simp; omega))); (try have hfGgC := fun o => hfz gC o (by first | omega | (simp; omega))); (try have hzGgC : gC < w1.heap.size := by omega); (try have hcGgD := fun o => hc gD o (by first | omega | (simp; omega))); (try have hfGgD := fun o => hfz gD o (by first | omega | (simp; omega))); (try have hzGgD : gD < w1.heap.size := by omega); (try have hcGgE := fun o => hc gE o (by first | omega | (simp; omega))); (try have hfGgE := fun o => hfz gE o (by first | omega | (simp; omega))); (try have hzGgE : gE < w1.heap.size := by omega); (try have hcGgF := fun o => hc gF o (by first | omega | (simp; omega))); (try have hfGgF := fun o => hfz gF o (by first | omega | (simp; omega))); (try have hzGgF : gF < w1.heap.size := by omega); (try have hcGgV := fun o => hc gV o (by first | omega | (simp; omega))); (try have hfGgV := fun o => hfz gV o (by first | omega | (simp; omega))); (try have hzGgV : gV < w1.heap.size := by omega))
          go_meet
          case rel => exact ⟨rfl, by (repeat' first | (with_reducible exact Below.refl _ _) | (with_reducible refine Below.setCell ?_ (by first | omega | (simp; done) | (simp; omega)) _) | (with_reducible refine Below.alloc ?_ (by first | omega | (simp; done) | (simp; omega)) _) | refine below_drewN ?_ _ | refine Below.drew ?_ | (refine below_thru (by assumption) ?_ (by first | omega | (simp; done) | (simp; omega))) | exact Below.refl _ _), by (repeat' first | (with_reducible assumption) | (with_reducible exact Blk.new _ _ _) | (with_reducible refine Blk.drew_ ?_) | (with_reducible refine Blk.alloc ?_ _) | (refine Blk.below ?_ (by assumption) (by first | omega | (simp; done) | (simp; omega))))⟩
        case rest =>
          clear hw hBA
          obtain ⟨rfl, hw, hBA⟩ := hcut
          have hAl := hBA.lt
          have hAc := hBA.cell
          have hAf := hBA.frozen
          go_upto_region 7 with fail
          go_cut [12, 13] from 16 (fun p e w' => ∃ gB, p = .pointer (some ⟨gB, 0, none⟩) ∧ e = .int .i64 fb ∧ w.heap.size ≤ gB ∧ gA ≠ gB ∧ Below w.heap.size w w' ∧ Blk w' gA 27 #[(Value.string ⟨((u).scheme).toArray⟩), (Value.string ⟨(((u).host).name).toArray⟩), (Value.bool ((u).host).v4), (Value.int .u32 (((u).host).addr : Int)), (Value.int .i64 (u).port), (Value.string ⟨((u).path).toArray⟩), (Value.bool (u).hasQuery), (Value.string ⟨((u).query).toArray⟩), (Value.string ⟨((u).rest).toArray⟩)] ∧ Blk w' gB 27 #[(Value.string ⟨((b).scheme).toArray⟩), (Value.string ⟨(((b).host).name).toArray⟩), (Value.bool ((b).host).v4), (Value.int .u32 (((b).host).addr : Int)), (Value.int .i64 (b).port), (Value.string ⟨((b).path).toArray⟩), (Value.bool (b).hasQuery), (Value.string ⟨((b).query).toArray⟩), (Value.string ⟨((b).rest).toArray⟩)])
          case first =>
            have hAl := hBA.lt
            have hAc := hBA.cell
            have hAf := hBA.frozen
            go_wp2_with (go_at_call 20; refine ( hq.out _ (by (repeat' first | (with_reducible exact Below.refl _ _) | (with_reducible refine Below.setCell ?_ (by first | omega | (simp; done) | (simp; omega)) _) | (with_reducible refine Below.alloc ?_ (by first | omega | (simp; done) | (simp; omega)) _) | refine below_drewN ?_ _ | refine Below.drew ?_ | (refine below_thru (by assumption) ?_ (by first | omega | (simp; done) | (simp; omega))) | exact Below.refl _ _))).mono ?_; rintro e w1 ⟨rfl, hb⟩; obtain ⟨hc, hfz⟩ := bcell hb; have hz := hb.size; (try simp at hz); (try have hz0 : w.heap.size < w1.heap.size := by omega); (try have hz1 : w.heap.size + 1 < w1.heap.size := by omega); (try have hz2 : w.heap.size + 2 < w1.heap.size := by omega); (try have hz3 : w.heap.size + 3 < w1.heap.size := by omega); (try have hcA := fun o => hc w.heap.size o (by first | omega | (simp; omega))); (try have hcB := fun o => hc (w.heap.size + 1) o (by first | omega | (simp; omega))); (try have hcGg := fun o => hc g o (by first | omega | (simp; omega))); (try have hfGg := fun o => hfz g o (by first | omega | (simp; omega))); (try have hzGg : g < w1.heap.size := by omega); (try have hcGgA := fun o => hc gA o (by first | omega | (simp; omega))); (try have hfGgA := fun o => hfz gA o (by first | omega | (simp; omega))); (try have hzGgA : gA < w1.heap.size := by omega); (try have hcGgB := fun o => hc gB o (by first | omega | (simp; omega))); (try have hfGgB := fun o => hfz gB o (by first | omega | (simp; omega))); (try have hzGgB : gB < w1.heap.size := by omega); (try have hcGgC := fun o => hc gC o (by first | omega | (simp; omega))); (try have hfGgC := fun o => hfz gC o (by first | omega | (simp; omega))); (try have hzGgC : gC < w1.heap.size := by omega); (try have hcGgD := fun o => hc gD o (by first | omega | (simp; omega))); (try have hfGgD := fun o => hfz gD o (by first | omega | (simp; omega))); (try have hzGgD : gD < w1.heap.size := by omega); (try have hcGgE := fun o => hc gE o (by first | omega | (simp; omega))); (try have hfGgE := fun o => hfz gE o (by first | omega | (simp; omega))); (try have hzGgE : gE < w1.heap.size := by omega); (try have hcGgF := fun o => hc gF o (by first | omega | (simp; omega))); (try have hfGgF := fun o => hfz gF o (by first | omega | (simp; omega))); (try have hzGgF : gF < w1.heap.size := by omega); (try have hcGgV := fun o => hc gV o (by first | omega | (simp; omega))); (try have hfGgV := fun o => hfz gV o (by first | omega | (simp; omega))); (try have hzGgV : gV < w1.heap.size := by omega))
            go_meet
            case rel => exact ⟨_, rfl, rfl, by first | omega | (simp; omega), by first | omega | (simp; omega), by (repeat' first | (with_reducible exact Below.refl _ _) | (with_reducible refine Below.setCell ?_ (by first | omega | (simp; done) | (simp; omega)) _) | (with_reducible refine Below.alloc ?_ (by first | omega | (simp; done) | (simp; omega)) _) | refine below_drewN ?_ _ | refine Below.drew ?_ | (refine below_thru (by assumption) ?_ (by first | omega | (simp; done) | (simp; omega))) | exact Below.refl _ _), by (repeat' first | (with_reducible assumption) | (with_reducible exact Blk.new _ _ _) | (with_reducible refine Blk.drew_ ?_) | (with_reducible refine Blk.alloc ?_ _) | (refine Blk.below ?_ (by assumption) (by first | omega | (simp; done) | (simp; omega)))), by (repeat' first | (with_reducible assumption) | (with_reducible exact Blk.new _ _ _) | (with_reducible refine Blk.drew_ ?_) | (with_reducible refine Blk.alloc ?_ _) | (refine Blk.below ?_ (by assumption) (by first | omega | (simp; done) | (simp; omega))))⟩
          case rest =>
            clear hw hBA
            obtain ⟨gB, rfl, rfl, hgB, hnAB, hw, hBA, hBB⟩ := hcut
            have hAl := hBA.lt
            have hAc := hBA.cell
            have hAf := hBA.frozen
            have hBl := hBB.lt
            have hBc := hBB.cell
            have hBf := hBB.frozen
            by_cases hfb : fb = 0
            · subst hfb
              have hpo := Lib.hid (hpo0.out rfl)
              go_upto_region 10 with fail
              go_cut [14] from 16 (fun p w' => ∃ gC, p = .pointer (some ⟨gC, 0, none⟩) ∧ w.heap.size ≤ gC ∧ gA ≠ gC ∧ gB ≠ gC ∧ Below w.heap.size w w' ∧ Blk w' gA 27 #[(Value.string ⟨((u).scheme).toArray⟩), (Value.string ⟨(((u).host).name).toArray⟩), (Value.bool ((u).host).v4), (Value.int .u32 (((u).host).addr : Int)), (Value.int .i64 (u).port), (Value.string ⟨((u).path).toArray⟩), (Value.bool (u).hasQuery), (Value.string ⟨((u).query).toArray⟩), (Value.string ⟨((u).rest).toArray⟩)] ∧ Blk w' gB 27 #[(Value.string ⟨((b).scheme).toArray⟩), (Value.string ⟨(((b).host).name).toArray⟩), (Value.bool ((b).host).v4), (Value.int .u32 (((b).host).addr : Int)), (Value.int .i64 (b).port), (Value.string ⟨((b).path).toArray⟩), (Value.bool (b).hasQuery), (Value.string ⟨((b).query).toArray⟩), (Value.string ⟨((b).rest).toArray⟩)] ∧ Blk w' gC 40 #[(Value.bool (o).opaq), (Value.int .i64 (o).id), (Value.string ⟨((o).scheme).toArray⟩), (Value.string ⟨(((o).host).name).toArray⟩), (Value.bool ((o).host).v4), (Value.int .u32 (((o).host).addr : Int)), (Value.int .i64 (o).port)])
              case first =>
                have hAl := hBA.lt
                have hAc := hBA.cell
                have hAf := hBA.frozen
                have hBl := hBB.lt
                have hBc := hBB.cell
                have hBf := hBB.frozen
                go_wp2_with (go_at_call 39; refine ( ho.out _ (by (repeat' first | (with_reducible exact Below.refl _ _) | (with_reducible refine Below.setCell ?_ (by first | omega | (simp; done) | (simp; omega)) _) | (with_reducible refine Below.alloc ?_ (by first | omega | (simp; done) | (simp; omega)) _) | refine below_drewN ?_ _ | refine Below.drew ?_ | (refine below_thru (by assumption) ?_ (by first | omega | (simp; done) | (simp; omega))) | exact Below.refl _ _))).mono ?_; rintro e w1 ⟨rfl, hb⟩; obtain ⟨hc, hfz⟩ := bcell hb; have hz := hb.size; (try simp at hz); (try have hz0 : w.heap.size < w1.heap.size := by omega); (try have hz1 : w.heap.size + 1 < w1.heap.size := by omega); (try have hz2 : w.heap.size + 2 < w1.heap.size := by omega); (try have hz3 : w.heap.size + 3 < w1.heap.size := by omega); (try have hcA := fun o => hc w.heap.size o (by first | omega | (simp; omega))); (try have hcB := fun o => hc (w.heap.size + 1) o (by first | omega | (simp; omega))); (try have hcGg := fun o => hc g o (by first | omega | (simp; omega))); (try have hfGg := fun o => hfz g o (by first | omega | (simp; omega))); (try have hzGg : g < w1.heap.size := by omega); (try have hcGgA := fun o => hc gA o (by first | omega | (simp; omega))); (try have hfGgA := fun o => hfz gA o (by first | omega | (simp; omega))); (try have hzGgA : gA < w1.heap.size := by omega); (try have hcGgB := fun o => hc gB o (by first | omega | (simp; omega))); (try have hfGgB := fun o => hfz gB o (by first | omega | (simp; omega))); (try have hzGgB : gB < w1.heap.size := by omega); (try have hcGgC := fun o => hc gC o (by first | omega | (simp; omega))); (try have hfGgC := fun o => hfz gC o (by first | omega | (simp; omega))); (try have hzGgC : gC < w1.heap.size := by omega); (try have hcGgD := fun o => hc gD o (by first | omega | (simp; omega))); (try have hfGgD := fun o => hfz gD o (by first | omega | (simp; omega))); (try have hzGgD : gD < w1.heap.size := by omega); (try have hcGgE := fun o => hc gE o (by first | omega | (simp; omega))); (try have hfGgE := fun o => hfz gE o (by first | omega | (simp; omega))); (try have hzGgE : gE < w1.heap.size := by omega); (try have hcGgF := fun o => hc gF o (by first | omega | (simp; omega))); (try have hfGgF := fun o => hfz gF o (by first | omega | (simp; omega))); (try have hzGgF : gF < w1.heap.size := by omega); (try have hcGgV := fun o => hc gV o (by first | omega | (simp; omega))); (try have hfGgV := fun o => hfz gV o (by first | omega | (simp; omega))); (try have hzGgV : gV < w1.heap.size := by omega))
                go_meet
                case rel => exact ⟨_, rfl, by first | omega | (simp; omega), by first | omega | (simp; omega), by first | omega | (simp; omega), by (repeat' first | (with_reducible exact Below.refl _ _) | (with_reducible refine Below.setCell ?_ (by first | omega | (simp; done) | (simp; omega)) _) | (with_reducible refine Below.alloc ?_ (by first | omega | (simp; done) | (simp; omega)) _) | refine below_drewN ?_ _ | refine Below.drew ?_ | (refine below_thru (by assumption) ?_ (by first | omega | (simp; done) | (simp; omega))) | exact Below.refl _ _), by (repeat' first | (with_reducible assumption) | (with_reducible exact Blk.new _ _ _) | (with_reducible refine Blk.drew_ ?_) | (with_reducible refine Blk.alloc ?_ _) | (refine Blk.below ?_ (by assumption) (by first | omega | (simp; done) | (simp; omega)))), by (repeat' first | (with_reducible assumption) | (with_reducible exact Blk.new _ _ _) | (with_reducible refine Blk.drew_ ?_) | (with_reducible refine Blk.alloc ?_ _) | (refine Blk.below ?_ (by assumption) (by first | omega | (simp; done) | (simp; omega)))), by (repeat' first | (with_reducible assumption) | (with_reducible exact Blk.new _ _ _) | (with_reducible refine Blk.drew_ ?_) | (with_reducible refine Blk.alloc ?_ _) | (refine Blk.below ?_ (by assumption) (by first | omega | (simp; done) | (simp; omega))))⟩
              case rest =>
                clear hw hBA hBB
                obtain ⟨gC, rfl, hgC, hnAC, hnBC, hw, hBA, hBB, hBC⟩ := hcut
                have hAl := hBA.lt
                have hAc := hBA.cell
                have hAf := hBA.frozen
                have hBl := hBB.lt
                have hBc := hBB.cell
                have hBf := hBB.frozen
                have hCl := hBC.lt
                have hCc := hBC.cell
                have hCf := hBC.frozen
                go_upto_region 11 with fail
                go_cut [15] from 16 (fun p w' => ∃ gD, p = .pointer (some ⟨gD, 0, none⟩) ∧ w.heap.size ≤ gD ∧ gA ≠ gD ∧ gB ≠ gD ∧ gC ≠ gD ∧ Below w.heap.size w w' ∧ Blk w' gA 27 #[(Value.string ⟨((u).scheme).toArray⟩), (Value.string ⟨(((u).host).name).toArray⟩), (Value.bool ((u).host).v4), (Value.int .u32 (((u).host).addr : Int)), (Value.int .i64 (u).port), (Value.string ⟨((u).path).toArray⟩), (Value.bool (u).hasQuery), (Value.string ⟨((u).query).toArray⟩), (Value.string ⟨((u).rest).toArray⟩)] ∧ Blk w' gB 27 #[(Value.string ⟨((b).scheme).toArray⟩), (Value.string ⟨(((b).host).name).toArray⟩), (Value.bool ((b).host).v4), (Value.int .u32 (((b).host).addr : Int)), (Value.int .i64 (b).port), (Value.string ⟨((b).path).toArray⟩), (Value.bool (b).hasQuery), (Value.string ⟨((b).query).toArray⟩), (Value.string ⟨((b).rest).toArray⟩)] ∧ Blk w' gC 40 #[(Value.bool (o).opaq), (Value.int .i64 (o).id), (Value.string ⟨((o).scheme).toArray⟩), (Value.string ⟨(((o).host).name).toArray⟩), (Value.bool ((o).host).v4), (Value.int .u32 (((o).host).addr : Int)), (Value.int .i64 (o).port)] ∧ Blk w' gD 40 #[(Value.bool (o).opaq), (Value.int .i64 (o).id), (Value.string ⟨((o).scheme).toArray⟩), (Value.string ⟨(((o).host).name).toArray⟩), (Value.bool ((o).host).v4), (Value.int .u32 (((o).host).addr : Int)), (Value.int .i64 (o).port)])
                case first =>
                  have hAl := hBA.lt
                  have hAc := hBA.cell
                  have hAf := hBA.frozen
                  have hBl := hBB.lt
                  have hBc := hBB.cell
                  have hBf := hBB.frozen
                  have hCl := hBC.lt
                  have hCc := hBC.cell
                  have hCf := hBC.frozen
                  go_wp2_with (go_at_call 39; refine ( hpo.out _ (by (repeat' first | (with_reducible exact Below.refl _ _) | (with_reducible refine Below.setCell ?_ (by first | omega | (simp; done) | (simp; omega)) _) | (with_reducible refine Below.alloc ?_ (by first | omega | (simp; done) | (simp; omega)) _) | refine below_drewN ?_ _ | refine Below.drew ?_ | (refine below_thru (by assumption) ?_ (by first | omega | (simp; done) | (simp; omega))) | exact Below.refl _ _))).mono ?_; rintro e w1 ⟨rfl, hb⟩; obtain ⟨hc, hfz⟩ := bcell hb; have hz := hb.size; (try simp at hz); (try have hz0 : w.heap.size < w1.heap.size := by omega); (try have hz1 : w.heap.size + 1 < w1.heap.size := by omega); (try have hz2 : w.heap.size + 2 < w1.heap.size := by omega); (try have hz3 : w.heap.size + 3 < w1.heap.size := by omega); (try have hcA := fun o => hc w.heap.size o (by first | omega | (simp; omega))); (try have hcB := fun o => hc (w.heap.size + 1) o (by first | omega | (simp; omega))); (try have hcGg := fun o => hc g o (by first | omega | (simp; omega))); (try have hfGg := fun o => hfz g o (by first | omega | (simp; omega))); (try have hzGg : g < w1.heap.size := by omega); (try have hcGgA := fun o => hc gA o (by first | omega | (simp; omega))); (try have hfGgA := fun o => hfz gA o (by first | omega | (simp; omega))); (try have hzGgA : gA < w1.heap.size := by omega); (try have hcGgB := fun o => hc gB o (by first | omega | (simp; omega))); (try have hfGgB := fun o => hfz gB o (by first | omega | (simp; omega))); (try have hzGgB : gB < w1.heap.size := by omega); (try have hcGgC := fun o => hc gC o (by first | omega | (simp; omega))); (try have hfGgC := fun o => hfz gC o (by first | omega | (simp; omega))); (try have hzGgC : gC < w1.heap.size := by omega); (try have hcGgD := fun o => hc gD o (by first | omega | (simp; omega))); (try have hfGgD := fun o => hfz gD o (by first | omega | (simp; omega))); (try have hzGgD : gD < w1.heap.size := by omega); (try have hcGgE := fun o => hc gE o (by first | omega | (simp; omega))); (try have hfGgE := fun o => hfz gE o (by first | omega | (simp; omega))); (try have hzGgE : gE < w1.heap.size := by omega); (try have hcGgF := fun o => hc gF o (by first | omega | (simp; omega))); (try have hfGgF := fun o => hfz gF o (by first | omega | (simp; omega))); (try have hzGgF : gF < w1.heap.size := by omega); (try have hcGgV := fun o => hc gV o (by first | omega | (simp; omega))); (try have hfGgV := fun o => hfz gV o (by first | omega | (simp; omega))); (try have hzGgV : gV < w1.heap.size := by omega))
                  go_meet
                  case rel => exact ⟨_, rfl, by first | omega | (simp; omega), by first | omega | (simp; omega), by first | omega | (simp; omega), by first | omega | (simp; omega), by (repeat' first | (with_reducible exact Below.refl _ _) | (with_reducible refine Below.setCell ?_ (by first | omega | (simp; done) | (simp; omega)) _) | (with_reducible refine Below.alloc ?_ (by first | omega | (simp; done) | (simp; omega)) _) | refine below_drewN ?_ _ | refine Below.drew ?_ | (refine below_thru (by assumption) ?_ (by first | omega | (simp; done) | (simp; omega))) | exact Below.refl _ _), by (repeat' first | (with_reducible assumption) | (with_reducible exact Blk.new _ _ _) | (with_reducible refine Blk.drew_ ?_) | (with_reducible refine Blk.alloc ?_ _) | (refine Blk.below ?_ (by assumption) (by first | omega | (simp; done) | (simp; omega)))), by (repeat' first | (with_reducible assumption) | (with_reducible exact Blk.new _ _ _) | (with_reducible refine Blk.drew_ ?_) | (with_reducible refine Blk.alloc ?_ _) | (refine Blk.below ?_ (by assumption) (by first | omega | (simp; done) | (simp; omega)))), by (repeat' first | (with_reducible assumption) | (with_reducible exact Blk.new _ _ _) | (with_reducible refine Blk.drew_ ?_) | (with_reducible refine Blk.alloc ?_ _) | (refine Blk.below ?_ (by assumption) (by first | omega | (simp; done) | (simp; omega)))), by (repeat' first | (with_reducible assumption) | (with_reducible exact Blk.new _ _ _) | (with_reducible refine Blk.drew_ ?_) | (with_reducible refine Blk.alloc ?_ _) | (refine Blk.below ?_ (by assumption) (by first | omega | (simp; done) | (simp; omega))))⟩
                case rest =>
                  clear hw hBA hBB hBC
                  obtain ⟨gD, rfl, hgD, hnAD, hnBD, hnCD, hw, hBA, hBB, hBC, hBD⟩ := hcut
                  have hAl := hBA.lt
                  have hAc := hBA.cell
                  have hAf := hBA.frozen
                  have hBl := hBB.lt
                  have hBc := hBB.cell
                  have hBf := hBB.frozen
                  have hCl := hBC.lt
                  have hCc := hBC.cell
                  have hCf := hBC.frozen
                  have hDl := hBD.lt
                  have hDc := hBD.cell
                  have hDf := hBD.frozen
                  go_wp2_with fail
                  go_region_held3 (fun W => Below w.heap.size w W ∧ gA < W.heap.size ∧ gB < W.heap.size ∧ gC < W.heap.size ∧ gD < W.heap.size ∧ (∀ n0, W.cell? ⟨gA, n0, none⟩ = (#[(Value.string ⟨((u).scheme).toArray⟩), (Value.string ⟨(((u).host).name).toArray⟩), (Value.bool ((u).host).v4), (Value.int .u32 (((u).host).addr : Int)), (Value.int .i64 (u).port), (Value.string ⟨((u).path).toArray⟩), (Value.bool (u).hasQuery), (Value.string ⟨((u).query).toArray⟩), (Value.string ⟨((u).rest).toArray⟩)] : Array Value)[n0]?) ∧ (∀ n0, W.cell? ⟨gB, n0, none⟩ = (#[(Value.string ⟨((b).scheme).toArray⟩), (Value.string ⟨(((b).host).name).toArray⟩), (Value.bool ((b).host).v4), (Value.int .u32 (((b).host).addr : Int)), (Value.int .i64 (b).port), (Value.string ⟨((b).path).toArray⟩), (Value.bool (b).hasQuery), (Value.string ⟨((b).query).toArray⟩), (Value.string ⟨((b).rest).toArray⟩)] : Array Value)[n0]?) ∧ (∀ n0, W.cell? ⟨gC, n0, none⟩ = (#[(Value.bool (o).opaq), (Value.int .i64 (o).id), (Value.string ⟨((o).scheme).toArray⟩), (Value.string ⟨(((o).host).name).toArray⟩), (Value.bool ((o).host).v4), (Value.int .u32 (((o).host).addr : Int)), (Value.int .i64 (o).port)] : Array Value)[n0]?) ∧ (∀ n0, W.cell? ⟨gD, n0, none⟩ = (#[(Value.bool (o).opaq), (Value.int .i64 (o).id), (Value.string ⟨((o).scheme).toArray⟩), (Value.string ⟨(((o).host).name).toArray⟩), (Value.bool ((o).host).v4), (Value.int .u32 (((o).host).addr : Int)), (Value.int .i64 (o).port)] : Array Value)[n0]?)) ((refine ⟨by (repeat' first | (with_reducible exact Below.refl _ _) | (with_reducible refine Below.setCell ?_ (by first | omega | (simp; done) | (simp; omega)) _) | (with_reducible refine Below.alloc ?_ (by first | omega | (simp; done) | (simp; omega)) _) | refine below_drewN ?_ _ | refine Below.drew ?_ | (refine below_thru (by assumption) ?_ (by first | omega | (simp; done) | (simp; omega))) | exact Below.refl _ _), ?_⟩; simp [*]))
                    (first | (go_at_call 37; refine ( hss.out _ (by (repeat' first | (with_reducible exact Below.refl _ _) | (with_reducible refine Below.setCell ?_ (by first | omega | (simp; done) | (simp; omega)) _) | (with_reducible refine Below.alloc ?_ (by first | omega | (simp; done) | (simp; omega)) _) | refine below_drewN ?_ _ | refine Below.drew ?_ | (refine below_thru (by assumption) ?_ (by first | omega | (simp; done) | (simp; omega))) | exact Below.refl _ _))).mono ?_; rintro e w1 ⟨rfl, hb⟩; obtain ⟨hc, hfz⟩ := bcell hb; have hz := hb.size; (try simp at hz); (try have hz0 : w.heap.size < w1.heap.size := by omega); (try have hz1 : w.heap.size + 1 < w1.heap.size := by omega); (try have hz2 : w.heap.size + 2 < w1.heap.size := by omega); (try have hz3 : w.heap.size + 3 < w1.heap.size := by omega); (try have hcA := fun o => hc w.heap.size o (by first | omega | (simp; omega))); (try have hcB := fun o => hc (w.heap.size + 1) o (by first | omega | (simp; omega))); (try have hcGg := fun o => hc g o (by first | omega | (simp; omega))); (try have hfGg := fun o => hfz g o (by first | omega | (simp; omega))); (try have hzGg : g < w1.heap.size := by omega); (try have hcGgA := fun o => hc gA o (by first | omega | (simp; omega))); (try have hfGgA := fun o => hfz gA o (by first | omega | (simp; omega))); (try have hzGgA : gA < w1.heap.size := by omega); (try have hcGgB := fun o => hc gB o (by first | omega | (simp; omega))); (try have hfGgB := fun o => hfz gB o (by first | omega | (simp; omega))); (try have hzGgB : gB < w1.heap.size := by omega); (try have hcGgC := fun o => hc gC o (by first | omega | (simp; omega))); (try have hfGgC := fun o => hfz gC o (by first | omega | (simp; omega))); (try have hzGgC : gC < w1.heap.size := by omega); (try have hcGgD := fun o => hc gD o (by first | omega | (simp; omega))); (try have hfGgD := fun o => hfz gD o (by first | omega | (simp; omega))); (try have hzGgD : gD < w1.heap.size := by omega); (try have hcGgE := fun o => hc gE o (by first | omega | (simp; omega))); (try have hfGgE := fun o => hfz gE o (by first | omega | (simp; omega))); (try have hzGgE : gE < w1.heap.size := by omega); (try have hcGgF := fun o => hc gF o (by first | omega | (simp; omega))); (try have hfGgF := fun o => hfz gF o (by first | omega | (simp; omega))); (try have hzGgF : gF < w1.heap.size := by omega); (try have hcGgV := fun o => hc gV o (by first | omega | (simp; omega))); (try have hfGgV := fun o => hfz gV o (by first | omega | (simp; omega))); (try have hzGgV : gV < w1.heap.size := by omega)) | (go_at_call 33; refine ( ht.out _ (by (repeat' first | (with_reducible exact Below.refl _ _) | (with_reducible refine Below.setCell ?_ (by first | omega | (simp; done) | (simp; omega)) _) | (with_reducible refine Below.alloc ?_ (by first | omega | (simp; done) | (simp; omega)) _) | refine below_drewN ?_ _ | refine Below.drew ?_ | (refine below_thru (by assumption) ?_ (by first | omega | (simp; done) | (simp; omega))) | exact Below.refl _ _))).mono ?_; rintro e w1 ⟨rfl, hb⟩; obtain ⟨hc, hfz⟩ := bcell hb; have hz := hb.size; (try simp at hz); (try have hz0 : w.heap.size < w1.heap.size := by omega); (try have hz1 : w.heap.size + 1 < w1.heap.size := by omega); (try have hz2 : w.heap.size + 2 < w1.heap.size := by omega); (try have hz3 : w.heap.size + 3 < w1.heap.size := by omega); (try have hcA := fun o => hc w.heap.size o (by first | omega | (simp; omega))); (try have hcB := fun o => hc (w.heap.size + 1) o (by first | omega | (simp; omega))); (try have hcGg := fun o => hc g o (by first | omega | (simp; omega))); (try have hfGg := fun o => hfz g o (by first | omega | (simp; omega))); (try have hzGg : g < w1.heap.size := by omega); (try have hcGgA := fun o => hc gA o (by first | omega | (simp; omega))); (try have hfGgA := fun o => hfz gA o (by first | omega | (simp; omega))); (try have hzGgA : gA < w1.heap.size := by omega); (try have hcGgB := fun o => hc gB o (by first | omega | (simp; omega))); (try have hfGgB := fun o => hfz gB o (by first | omega | (simp; omega))); (try have hzGgB : gB < w1.heap.size := by omega); (try have hcGgC := fun o => hc gC o (by first | omega | (simp; omega))); (try have hfGgC := fun o => hfz gC o (by first | omega | (simp; omega))); (try have hzGgC : gC < w1.heap.size := by omega); (try have hcGgD := fun o => hc gD o (by first | omega | (simp; omega))); (try have hfGgD := fun o => hfz gD o (by first | omega | (simp; omega))); (try have hzGgD : gD < w1.heap.size := by omega); (try have hcGgE := fun o => hc gE o (by first | omega | (simp; omega))); (try have hfGgE := fun o => hfz gE o (by first | omega | (simp; omega))); (try have hzGgE : gE < w1.heap.size := by omega); (try have hcGgF := fun o => hc gF o (by first | omega | (simp; omega))); (try have hfGgF := fun o => hfz gF o (by first | omega | (simp; omega))); (try have hzGgF : gF < w1.heap.size := by omega); (try have hcGgV := fun o => hc gV o (by first | omega | (simp; omega))); (try have hfGgV := fun o => hfz gV o (by first | omega | (simp; omega))); (try have hzGgV : gV < w1.heap.size := by omega)))
                  all_goals (go_wp2_with fail)
                  all_goals go_ret
                  all_goals exact ⟨rfl, by (repeat' first | (with_reducible exact Below.refl _ _) | (with_reducible refine Below.setCell ?_ (by first | omega | (simp; done) | (simp; omega)) _) | (with_reducible refine Below.alloc ?_ (by first | omega | (simp; done) | (simp; omega)) _) | refine below_drewN ?_ _ | refine Below.drew ?_ | (refine below_thru (by assumption) ?_ (by first | omega | (simp; done) | (simp; omega))) | exact Below.refl _ _)⟩
            · have z : (fb != 0) = true := by simpa using hfb
              go_wp2_with fail
              go_ret
              exact ⟨rfl, by (repeat' first | (with_reducible exact Below.refl _ _) | (with_reducible refine Below.setCell ?_ (by first | omega | (simp; done) | (simp; omega)) _) | (with_reducible refine Below.alloc ?_ (by first | omega | (simp; done) | (simp; omega)) _) | refine below_drewN ?_ _ | refine Below.drew ?_ | (refine below_thru (by assumption) ?_ (by first | omega | (simp; done) | (simp; omega))) | exact Below.refl _ _)⟩
  · have hbad : 1000 < s.length ∨ (s.length ≤ 1000 ∧ ((Gl.parse s).2 ≠ 0 ∨ ((Gl.parse s).2 = 0 ∧ (Gl.isNet (Gl.parse s).1 = false ∨ (Gl.isNet (Gl.parse s).1 = true ∧ smallS S = false))))) := by
      by_cases a : s.length ≤ 1000
      · right
        refine ⟨a, ?_⟩
        by_cases b : (Gl.parse s).2 = 0
        · right
          refine ⟨b, ?_⟩
          cases c : Gl.isNet (Gl.parse s).1 with
          | false => exact Or.inl rfl
          | true =>
            right
            refine ⟨rfl, ?_⟩
            cases d : smallS S with
            | false => rfl
            | true => exact absurd ⟨a, b, c, d⟩ hg
        · exact Or.inl b
      · left; omega
    clear hg hsmo hvc
    have hn : ∀ W, Calls Tryd.prog 26 #[(Value.agg #[(Value.string ⟨(((Gl.parse s).1).scheme).toArray⟩), (Value.string ⟨((((Gl.parse s).1).host).name).toArray⟩), (Value.bool (((Gl.parse s).1).host).v4), (Value.int .u32 ((((Gl.parse s).1).host).addr : Int)), (Value.int .i64 ((Gl.parse s).1).port), (Value.string ⟨(((Gl.parse s).1).path).toArray⟩), (Value.bool ((Gl.parse s).1).hasQuery), (Value.string ⟨(((Gl.parse s).1).query).toArray⟩), (Value.string ⟨(((Gl.parse s).1).rest).toArray⟩)])] W (Ret W (.bool (Gl.isNet (Gl.parse s).1))) := fun W => urlp_net (Gl.parse s).1 W
    generalize smallS S = sm at *
    generalize Gl.parse s = p at *
    obtain ⟨u, er⟩ := p
    simp only at hp hn hbad
    generalize Gl.isNet u = nn at *
    subst hve
    replace hsm := Lib.hid hsm
    replace hp := Lib.hid hp
    replace hn := Lib.hid hn
    replace hbad := Lib.hid hbad
    go_enter Tryd.func15, Tryd.ntmps15
    go_upto_region 2 with (go_at_call 29; refine ( awake4 _ (hE.below (by (repeat' first | (with_reducible exact Below.refl _ _) | (with_reducible refine Below.setCell ?_ (by first | omega | (simp; done) | (simp; omega)) _) | (with_reducible refine Below.alloc ?_ (by first | omega | (simp; done) | (simp; omega)) _) | refine below_drewN ?_ _ | refine Below.drew ?_ | (refine below_thru (by assumption) ?_ (by first | omega | (simp; done) | (simp; omega))) | exact Below.refl _ _)))).mono ?_; rintro e w1 ⟨rfl, hb⟩; obtain ⟨hc, hfz⟩ := bcell hb; have hz := hb.size; (try simp at hz); (try have hz0 : w.heap.size < w1.heap.size := by omega); (try have hz1 : w.heap.size + 1 < w1.heap.size := by omega); (try have hz2 : w.heap.size + 2 < w1.heap.size := by omega); (try have hz3 : w.heap.size + 3 < w1.heap.size := by omega); (try have hcA := fun o => hc w.heap.size o (by first | omega | (simp; omega))); (try have hcB := fun o => hc (w.heap.size + 1) o (by first | omega | (simp; omega))); (try have hcGg := fun o => hc g o (by first | omega | (simp; omega))); (try have hfGg := fun o => hfz g o (by first | omega | (simp; omega))); (try have hzGg : g < w1.heap.size := by omega); (try have hcGgA := fun o => hc gA o (by first | omega | (simp; omega))); (try have hfGgA := fun o => hfz gA o (by first | omega | (simp; omega))); (try have hzGgA : gA < w1.heap.size := by omega); (try have hcGgB := fun o => hc gB o (by first | omega | (simp; omega))); (try have hfGgB := fun o => hfz gB o (by first | omega | (simp; omega))); (try have hzGgB : gB < w1.heap.size := by omega); (try have hcGgC := fun o => hc gC o (by first | omega | (simp; omega))); (try have hfGgC := fun o => hfz gC o (by first | omega | (simp; omega))); (try have hzGgC : gC < w1.heap.size := by omega); (try have hcGgD := fun o => hc gD o (by first | omega | (simp; omega))); (try have hfGgD := fun o => hfz gD o (by first | omega | (simp; omega))); (try have hzGgD : gD < w1.heap.size := by omega); (try have hcGgE := fun o => hc gE o (by first | omega | (simp; omega))); (try have hfGgE := fun o => hfz gE o (by first | omega | (simp; omega))); (try have hzGgE : gE < w1.heap.size := by omega); (try have hcGgF := fun o => hc gF o (by first | omega | (simp; omega))); (try have hfGgF := fun o => hfz gF o (by first | omega | (simp; omega))); (try have hzGgF : gF < w1.heap.size := by omega); (try have hcGgV := fun o => hc gV o (by first | omega | (simp; omega))); (try have hfGgV := fun o => hfz gV o (by first | omega | (simp; omega))); (try have hzGgV : gV < w1.heap.size := by omega))
    go_cut [8] from 16 (fun p w' => p = .bool sm ∧ Below w.heap.size w w')
    case first =>
      go_wp2_with (go_at_call 30; refine ( hsm.out _ (by (repeat' first | (with_reducible exact Below.refl _ _) | (with_reducible refine Below.setCell ?_ (by first | omega | (simp; done) | (simp; omega)) _) | (with_reducible refine Below.alloc ?_ (by first | omega | (simp; done) | (simp; omega)) _) | refine below_drewN ?_ _ | refine Below.drew ?_ | (refine below_thru (by assumption) ?_ (by first | omega | (simp; done) | (simp; omega))) | exact Below.refl _ _))).mono ?_; rintro e w1 ⟨rfl, hb⟩; obtain ⟨hc, hfz⟩ := bcell hb; have hz := hb.size; (try simp at hz); (try have hz0 : w.heap.size < w1.heap.size := by omega); (try have hz1 : w.heap.size + 1 < w1.heap.size := by omega); (try have hz2 : w.heap.size + 2 < w1.heap.size := by omega); (try have hz3 : w.heap.size + 3 < w1.heap.size := by omega); (try have hcA := fun o => hc w.heap.size o (by first | omega | (simp; omega))); (try have hcB := fun o => hc (w.heap.size + 1) o (by first | omega | (simp; omega))); (try have hcGg := fun o => hc g o (by first | omega | (simp; omega))); (try have hfGg := fun o => hfz g o (by first | omega | (simp; omega))); (try have hzGg : g < w1.heap.size := by omega); (try have hcGgA := fun o => hc gA o (by first | omega | (simp; omega))); (try have hfGgA := fun o => hfz gA o (by first | omega | (simp; omega))); (try have hzGgA : gA < w1.heap.size := by omega); (try have hcGgB := fun o => hc gB o (by first | omega | (simp; omega))); (try have hfGgB := fun o => hfz gB o (by first | omega | (simp; omega))); (try have hzGgB : gB < w1.heap.size := by omega); (try have hcGgC := fun o => hc gC o (by first | omega | (simp; omega))); (try have hfGgC := fun o => hfz gC o (by first | omega | (simp; omega))); (try have hzGgC : gC < w1.heap.size := by omega); (try have hcGgD := fun o => hc gD o (by first | omega | (simp; omega))); (try have hfGgD := fun o => hfz gD o (by first | omega | (simp; omega))); (try have hzGgD : gD < w1.heap.size := by omega); (try have hcGgE := fun o => hc gE o (by first | omega | (simp; omega))); (try have hfGgE := fun o => hfz gE o (by first | omega | (simp; omega))); (try have hzGgE : gE < w1.heap.size := by omega); (try have hcGgF := fun o => hc gF o (by first | omega | (simp; omega))); (try have hfGgF := fun o => hfz gF o (by first | omega | (simp; omega))); (try have hzGgF : gF < w1.heap.size := by omega); (try have hcGgV := fun o => hc gV o (by first | omega | (simp; omega))); (try have hfGgV := fun o => hfz gV o (by first | omega | (simp; omega))); (try have hzGgV : gV < w1.heap.size := by omega))
      go_meet
      case rel => exact ⟨rfl, by (repeat' first | (with_reducible exact Below.refl _ _) | (with_reducible refine Below.setCell ?_ (by first | omega | (simp; done) | (simp; omega)) _) | (with_reducible refine Below.alloc ?_ (by first | omega | (simp; done) | (simp; omega)) _) | refine below_drewN ?_ _ | refine Below.drew ?_ | (refine below_thru (by assumption) ?_ (by first | omega | (simp; done) | (simp; omega))) | exact Below.refl _ _)⟩
    case rest =>
      obtain ⟨rfl, hw⟩ := hcut
      go_upto_region 3 with fail
      go_cut [9, 10] from 16 (fun p e w' => ∃ gA, p = .pointer (some ⟨gA, 0, none⟩) ∧ e = .int .i64 er ∧ w.heap.size ≤ gA ∧ Below w.heap.size w w' ∧ Blk w' gA 27 #[(Value.string ⟨((u).scheme).toArray⟩), (Value.string ⟨(((u).host).name).toArray⟩), (Value.bool ((u).host).v4), (Value.int .u32 (((u).host).addr : Int)), (Value.int .i64 (u).port), (Value.string ⟨((u).path).toArray⟩), (Value.bool (u).hasQuery), (Value.string ⟨((u).query).toArray⟩), (Value.string ⟨((u).rest).toArray⟩)])
      case first =>
        have hws := hw.size
        go_wp2_with (go_at_call 20; refine ( hp.out _ (by (repeat' first | (with_reducible exact Below.refl _ _) | (with_reducible refine Below.setCell ?_ (by first | omega | (simp; done) | (simp; omega)) _) | (with_reducible refine Below.alloc ?_ (by first | omega | (simp; done) | (simp; omega)) _) | refine below_drewN ?_ _ | refine Below.drew ?_ | (refine below_thru (by assumption) ?_ (by first | omega | (simp; done) | (simp; omega))) | exact Below.refl _ _))).mono ?_; rintro e w1 ⟨rfl, hb⟩; obtain ⟨hc, hfz⟩ := bcell hb; have hz := hb.size; (try simp at hz); (try have hz0 : w.heap.size < w1.heap.size := by omega); (try have hz1 : w.heap.size + 1 < w1.heap.size := by omega); (try have hz2 : w.heap.size + 2 < w1.heap.size := by omega); (try have hz3 : w.heap.size + 3 < w1.heap.size := by omega); (try have hcA := fun o => hc w.heap.size o (by first | omega | (simp; omega))); (try have hcB := fun o => hc (w.heap.size + 1) o (by first | omega | (simp; omega))); (try have hcGg := fun o => hc g o (by first | omega | (simp; omega))); (try have hfGg := fun o => hfz g o (by first | omega | (simp; omega))); (try have hzGg : g < w1.heap.size := by omega); (try have hcGgA := fun o => hc gA o (by first | omega | (simp; omega))); (try have hfGgA := fun o => hfz gA o (by first | omega | (simp; omega))); (try have hzGgA : gA < w1.heap.size := by omega); (try have hcGgB := fun o => hc gB o (by first | omega | (simp; omega))); (try have hfGgB := fun o => hfz gB o (by first | omega | (simp; omega))); (try have hzGgB : gB < w1.heap.size := by omega); (try have hcGgC := fun o => hc gC o (by first | omega | (simp; omega))); (try have hfGgC := fun o => hfz gC o (by first | omega | (simp; omega))); (try have hzGgC : gC < w1.heap.size := by omega); (try have hcGgD := fun o => hc gD o (by first | omega | (simp; omega))); (try have hfGgD := fun o => hfz gD o (by first | omega | (simp; omega))); (try have hzGgD : gD < w1.heap.size := by omega); (try have hcGgE := fun o => hc gE o (by first | omega | (simp; omega))); (try have hfGgE := fun o => hfz gE o (by first | omega | (simp; omega))); (try have hzGgE : gE < w1.heap.size := by omega); (try have hcGgF := fun o => hc gF o (by first | omega | (simp; omega))); (try have hfGgF := fun o => hfz gF o (by first | omega | (simp; omega))); (try have hzGgF : gF < w1.heap.size := by omega); (try have hcGgV := fun o => hc gV o (by first | omega | (simp; omega))); (try have hfGgV := fun o => hfz gV o (by first | omega | (simp; omega))); (try have hzGgV : gV < w1.heap.size := by omega))
        go_meet
        case rel => exact ⟨_, rfl, rfl, by first | omega | (simp; omega), by (repeat' first | (with_reducible exact Below.refl _ _) | (with_reducible refine Below.setCell ?_ (by first | omega | (simp; done) | (simp; omega)) _) | (with_reducible refine Below.alloc ?_ (by first | omega | (simp; done) | (simp; omega)) _) | refine below_drewN ?_ _ | refine Below.drew ?_ | (refine below_thru (by assumption) ?_ (by first | omega | (simp; done) | (simp; omega))) | exact Below.refl _ _), by (repeat' first | (with_reducible assumption) | (with_reducible exact Blk.new _ _ _) | (with_reducible refine Blk.drew_ ?_) | (with_reducible refine Blk.alloc ?_ _) | (refine Blk.below ?_ (by assumption) (by first | omega | (simp; done) | (simp; omega))))⟩
      case rest =>
        clear hw
        obtain ⟨gA, rfl, rfl, hgA, hw, hBA⟩ := hcut
        go_upto_region 4 with fail
        go_cut [11] from 16 (fun p w' => p = .bool nn ∧ Below w.heap.size w w' ∧ Blk w' gA 27 #[(Value.string ⟨((u).scheme).toArray⟩), (Value.string ⟨(((u).host).name).toArray⟩), (Value.bool ((u).host).v4), (Value.int .u32 (((u).host).addr : Int)), (Value.int .i64 (u).port), (Value.string ⟨((u).path).toArray⟩), (Value.bool (u).hasQuery), (Value.string ⟨((u).query).toArray⟩), (Value.string ⟨((u).rest).toArray⟩)])
        case first =>
          have hAl := hBA.lt
          have hAc := hBA.cell
          have hAf := hBA.frozen
          go_wp2_with (go_at_call 26; refine ( hn.out _).mono ?_; rintro e w1 ⟨rfl, hb⟩; obtain ⟨hc, hfz⟩ := bcell hb; have hz := hb.size; (try simp at hz); (try have hz0 : w.heap.size < w1.heap.size := by omega); (try have hz1 : w.heap.size + 1 < w1.heap.size := by omega); (try have hz2 : w.heap.size + 2 < w1.heap.size := by omega); (try have hz3 : w.heap.size + 3 < w1.heap.size := by omega); (try have hcA := fun o => hc w.heap.size o (by first | omega | (simp; omega))); (try have hcB := fun o => hc (w.heap.size + 1) o (by first | omega | (simp; omega))); (try have hcGg := fun o => hc g o (by first | omega | (simp; omega))); (try have hfGg := fun o => hfz g o (by first | omega | (simp; omega))); (try have hzGg : g < w1.heap.size := by omega); (try have hcGgA := fun o => hc gA o (by first | omega | (simp; omega))); (try have hfGgA := fun o => hfz gA o (by first | omega | (simp; omega))); (try have hzGgA : gA < w1.heap.size := by omega); (try have hcGgB := fun o => hc gB o (by first | omega | (simp; omega))); (try have hfGgB := fun o => hfz gB o (by first | omega | (simp; omega))); (try have hzGgB : gB < w1.heap.size := by omega); (try have hcGgC := fun o => hc gC o (by first | omega | (simp; omega))); (try have hfGgC := fun o => hfz gC o (by first | omega | (simp; omega))); (try have hzGgC : gC < w1.heap.size := by omega); (try have hcGgD := fun o => hc gD o (by first | omega | (simp; omega))); (try have hfGgD := fun o => hfz gD o (by first | omega | (simp; omega))); (try have hzGgD : gD < w1.heap.size := by omega); (try have hcGgE := fun o => hc gE o (by first | omega | (simp; omega))); (try have hfGgE := fun o => hfz gE o (by first | omega | (simp; omega))); (try have hzGgE : gE < w1.heap.size := by omega); (try have hcGgF := fun o => hc gF o (by first | omega | (simp; omega))); (try have hfGgF := fun o => hfz gF o (by first | omega | (simp; omega))); (try have hzGgF : gF < w1.heap.size := by omega); (try have hcGgV := fun o => hc gV o (by first | omega | (simp; omega))); (try have hfGgV := fun o => hfz gV o (by first | omega | (simp; omega))); (try have hzGgV : gV < w1.heap.size := by omega))
          go_meet
          case rel => exact ⟨rfl, by (repeat' first | (with_reducible exact Below.refl _ _) | (with_reducible refine Below.setCell ?_ (by first | omega | (simp; done) | (simp; omega)) _) | (with_reducible refine Below.alloc ?_ (by first | omega | (simp; done) | (simp; omega)) _) | refine below_drewN ?_ _ | refine Below.drew ?_ | (refine below_thru (by assumption) ?_ (by first | omega | (simp; done) | (simp; omega))) | exact Below.refl _ _), by (repeat' first | (with_reducible assumption) | (with_reducible exact Blk.new _ _ _) | (with_reducible refine Blk.drew_ ?_) | (with_reducible refine Blk.alloc ?_ _) | (refine Blk.below ?_ (by assumption) (by first | omega | (simp; done) | (simp; omega))))⟩
        case rest =>
          clear hw hBA
          obtain ⟨rfl, hw, hBA⟩ := hcut
          have hAl := hBA.lt
          have hAc := hBA.cell
          have hAf := hBA.frozen
          rcases hbad.out with q | ⟨q0, q | ⟨q1, q | ⟨q2, q⟩⟩⟩
          · go_wp2_with fail
            go_ret
            exact ⟨rfl, by (repeat' first | (with_reducible exact Below.refl _ _) | (with_reducible refine Below.setCell ?_ (by first | omega | (simp; done) | (simp; omega)) _) | (with_reducible refine Below.alloc ?_ (by first | omega | (simp; done) | (simp; omega)) _) | refine below_drewN ?_ _ | refine Below.drew ?_ | (refine below_thru (by assumption) ?_ (by first | omega | (simp; done) | (simp; omega))) | exact Below.refl _ _)⟩
          · have z : (er != 0) = true := by simpa using q
            clear q
            go_wp2_with fail
            go_ret
            exact ⟨rfl, by (repeat' first | (with_reducible exact Below.refl _ _) | (with_reducible refine Below.setCell ?_ (by first | omega | (simp; done) | (simp; omega)) _) | (with_reducible refine Below.alloc ?_ (by first | omega | (simp; done) | (simp; omega)) _) | refine below_drewN ?_ _ | refine Below.drew ?_ | (refine below_thru (by assumption) ?_ (by first | omega | (simp; done) | (simp; omega))) | exact Below.refl _ _)⟩
          · subst q1 q
            go_wp2_with fail
            go_ret
            exact ⟨rfl, by (repeat' first | (with_reducible exact Below.refl _ _) | (with_reducible refine Below.setCell ?_ (by first | omega | (simp; done) | (simp; omega)) _) | (with_reducible refine Below.alloc ?_ (by first | omega | (simp; done) | (simp; omega)) _) | refine below_drewN ?_ _ | refine Below.drew ?_ | (refine below_thru (by assumption) ?_ (by first | omega | (simp; done) | (simp; omega))) | exact Below.refl _ _)⟩
          · subst q1 q2 q
            go_wp2_with fail
            go_ret
            exact ⟨rfl, by (repeat' first | (with_reducible exact Below.refl _ _) | (with_reducible refine Below.setCell ?_ (by first | omega | (simp; done) | (simp; omega)) _) | (with_reducible refine Below.alloc ?_ (by first | omega | (simp; done) | (simp; omega)) _) | refine below_drewN ?_ _ | refine Below.drew ?_ | (refine below_thru (by assumption) ?_ (by first | omega | (simp; done) | (simp; omega))) | exact Below.refl _ _)⟩
end Go.Proofs.YthmgcnaoionmoaaDoor
