/- A URL of http or https that is read: what it is like, and that its text is read as itself. The plain part. -/
import Derived.Test.YtbafofldgkigmaaGreatDoorPlain
namespace Go.Proofs.YtbafofldgkigmaaGreatDoor

/-! ### ends, and what is cut off -/
theorem blank_no {c : UInt8} (h : 32 < c.toNat) : Gl.blank c = false := by unfold Gl.blank; simp; omega
theorem trimR_app (X r : List UInt8) (h : ∀ c ∈ X, 32 < c.toNat) : Gl.trimR (X ++ r) = X ++ Gl.trimR r := by
  unfold Gl.trimR
  rw [List.reverse_append, List.dropWhile_append]
  have hX : X.reverse.dropWhile Gl.blank = X.reverse := by
    cases hx : X.reverse with
    | nil => rfl
    | cons a b =>
      rw [List.dropWhile_cons, blank_no (h a (by rw [← List.mem_reverse, hx]; simp))]
      simp
  split
  · rename_i he
    simp at he
    rw [hX]
    have : r.reverse.dropWhile Gl.blank = [] := by simpa using he
    rw [this]
    simp
  · simp
theorem trim_app (X r : List UInt8) (h : ∀ c ∈ X, 32 < c.toNat) (h0 : X ≠ []) : Gl.trim (X ++ r) = X ++ Gl.trimR r := by
  unfold Gl.trim
  have : Gl.trimL (X ++ r) = X ++ r := by
    unfold Gl.trimL
    cases X with
    | nil => exact absurd rfl h0
    | cons a b =>
      rw [List.cons_append, List.dropWhile_cons, blank_no (h a (by simp))]
      simp
  rw [this, trimR_app X r h]
theorem trim_good (X : List UInt8) (h : ∀ c ∈ X, 32 < c.toNat) : Gl.trim X = X := by
  cases X with
  | nil => rfl
  | cons a b =>
    have := trim_app (a :: b) [] h (by simp)
    simpa [Gl.trimR] using this
theorem trim_ends (a s b : List UInt8) (ha : a.all Gl.blank = true) (hb : b.all Gl.blank = true) : Gl.trim (a ++ s ++ b) = Gl.trim s := by
  have ha' : ∀ c ∈ a, Gl.blank c = true := by simpa using ha
  have hb' : ∀ c ∈ b, Gl.blank c = true := by simpa using hb
  unfold Gl.trim
  have h1 : Gl.trimL (a ++ s ++ b) = Gl.trimL (s ++ b) := by
    unfold Gl.trimL
    rw [List.append_assoc, List.dropWhile_append_of_pos ha']
  rw [h1]
  have h2 : Gl.trimL (s ++ b) = Gl.trimL s ++ b ∨ (Gl.trimL (s ++ b) = [] ∧ Gl.trimL s = []) := by
    unfold Gl.trimL
    rw [List.dropWhile_append]
    split
    · rename_i h
      right
      refine ⟨?_, by simpa using h⟩
      have := List.dropWhile_append_of_pos (l₂ := []) hb'
      simpa using this
    · exact Or.inl rfl
  rcases h2 with h2 | ⟨h2, h3⟩
  · rw [h2]
    unfold Gl.trimR
    rw [List.reverse_append, List.dropWhile_append_of_pos (by intro c hc; exact hb' c (by simpa using hc))]
  · rw [h2, h3]
theorem span_app (of p r : List UInt8) (h : ∀ c ∈ p, of.contains c = false) : Gl.span of (p ++ r) = (p ++ (Gl.span of r).1, (Gl.span of r).2) := by
  have h' : ∀ c ∈ p, (fun c => !of.contains c) c = true := fun c hc => by simp only [h c hc]; rfl
  unfold Gl.span
  rw [List.takeWhile_append_of_pos h', List.dropWhile_append_of_pos h']
theorem span_hd (of : List UInt8) (c : UInt8) (r : List UInt8) (h : of.contains c = true) : Gl.span of (c :: r) = ([], c :: r) := by
  unfold Gl.span
  rw [List.takeWhile_cons, List.dropWhile_cons]
  simp only [h]; rfl
theorem span_at (of p : List UInt8) (c : UInt8) (r : List UInt8) (h : ∀ c ∈ p, of.contains c = false) (hc : of.contains c = true) : Gl.span of (p ++ c :: r) = (p, c :: r) := by
  rw [span_app of p _ h, span_hd of c r hc]; simp
theorem span_no (of p : List UInt8) (h : ∀ c ∈ p, of.contains c = false) : Gl.span of p = (p, []) := by
  have := span_app of p [] h
  simpa [Gl.span] using this
theorem span_mem (of l : List UInt8) : (∀ c ∈ (Gl.span of l).1, c ∈ l ∧ of.contains c = false) ∧ (∀ c ∈ (Gl.span of l).2, c ∈ l) := by
  have e : (Gl.span of l).1 ++ (Gl.span of l).2 = l := List.takeWhile_append_dropWhile
  refine ⟨fun c hc => ⟨by rw [← e]; exact List.mem_append_left _ hc, ?_⟩, fun c hc => by rw [← e]; exact List.mem_append_right _ hc⟩
  have := List.all_takeWhile (p := fun c => !of.contains c) (l := l)
  have := List.all_eq_true.1 this c hc
  simpa using this

/-! ### paths -/
/-- A byte that may stand in a part of a path. -/
def partC (c : UInt8) : Prop := badC c = false ∧ c ≠ 35 ∧ c ≠ 47 ∧ c ≠ 63
theorem cleanGo_mem (L : List (List UInt8)) : ∀ out, ∀ q ∈ Gl.cleanGo out L, q ∈ out ∨ q = [] ∨ (q ∈ L ∧ q ≠ [46] ∧ q ≠ [46, 46]) := by
  induction L with
  | nil => intro out q h; exact Or.inl h
  | cons p r ih =>
    intro out q h
    have up : (q ∈ r ∧ q ≠ [46] ∧ q ≠ [46, 46]) → q ∈ p :: r ∧ q ≠ [46] ∧ q ≠ [46, 46] := fun ⟨h1, h2⟩ => ⟨List.mem_cons_of_mem _ h1, h2⟩
    unfold Gl.cleanGo at h
    split at h
    · split at h
      · rcases List.mem_append.1 h with h | h
        · exact Or.inl ((List.dropLast_sublist _).subset h)
        · exact Or.inr (Or.inl (by simpa using h))
      · rcases ih _ q h with h | h | h
        · exact Or.inl ((List.dropLast_sublist _).subset h)
        · exact Or.inr (Or.inl h)
        · exact Or.inr (Or.inr (up h))
    · split at h
      · split at h
        · rcases List.mem_append.1 h with h | h
          · exact Or.inl h
          · exact Or.inr (Or.inl (by simpa using h))
        · rcases ih _ q h with h | h | h
          · exact Or.inl h
          · exact Or.inr (Or.inl h)
          · exact Or.inr (Or.inr (up h))
      · rename_i h1 h2
        rcases ih _ q h with h | h | h
        · rcases List.mem_append.1 h with h | h
          · exact Or.inl h
          · obtain rfl : q = p := by simpa using h
            exact Or.inr (Or.inr ⟨by simp, h2, h1⟩)
        · exact Or.inr (Or.inl h)
        · exact Or.inr (Or.inr (up h))
theorem cleanGo_some (r : List (List UInt8)) : ∀ out p, Gl.cleanGo out (p :: r) ≠ [] := by
  induction r with
  | nil =>
    intro out p
    unfold Gl.cleanGo
    split
    · simp
    · split
      · simp
      · simp [Gl.cleanGo]
  | cons a b ih =>
    intro out p
    unfold Gl.cleanGo
    split
    · exact ih _ _
    · split
      · exact ih _ _
      · exact ih _ _
theorem cleanGo_same (L : List (List UInt8)) : ∀ out, (∀ p ∈ L, p ≠ [46] ∧ p ≠ [46, 46]) → Gl.cleanGo out L = out ++ L := by
  induction L with
  | nil => intro out _; simp [Gl.cleanGo]
  | cons p r ih =>
    intro out h
    have hp := h p (by simp)
    unfold Gl.cleanGo
    rw [if_neg hp.2, if_neg hp.1, ih _ (fun q hq => h q (List.mem_cons_of_mem _ hq))]
    simp
/-- A path that is read: its parts. -/
def PathOf (p : List UInt8) (L : List (List UInt8)) : Prop := p = Gl.slashed L ∧ L ≠ [] ∧ ∀ q ∈ L, q ≠ [46] ∧ q ≠ [46, 46] ∧ ∀ c ∈ q, partC c
theorem clean_path (x : List UInt8) (h : ∀ c ∈ x, badC c = false ∧ c ≠ 35 ∧ c ≠ 63) : ∃ L, PathOf (Gl.clean x) L := by
  refine ⟨Gl.cleanGo [] (Gl.split 47 (x.drop 1)), rfl, ?_, ?_⟩
  · have hs := split_pos 47 (x.drop 1)
    cases hS : Gl.split 47 (x.drop 1) with
    | nil => rw [hS] at hs; simp at hs
    | cons a b => exact cleanGo_some b [] a
  · intro q hq
    rcases cleanGo_mem _ _ q hq with h1 | h1 | ⟨h1, h2, h3⟩
    · cases h1
    · subst h1; exact ⟨by decide, by decide, fun c hc => by cases hc⟩
    · refine ⟨h2, h3, fun c hc => ?_⟩
      obtain ⟨h4, h5⟩ := split_from 47 _ q h1 c hc
      obtain ⟨h6, h7, h8⟩ := h c (List.mem_of_mem_drop h4)
      exact ⟨h6, h7, h5, h8⟩
theorem PathOf.split {p : List UInt8} {L : List (List UInt8)} (h : PathOf p L) : Gl.split 47 p = [] :: L := by
  rw [h.1]
  exact split_slashed L fun q hq c hc => ((h.2.2 q hq).2.2 c hc).2.2.1
theorem PathOf.head {p : List UInt8} {L : List (List UInt8)} (h : PathOf p L) : ∃ r, p = 47 :: r := by
  obtain ⟨h1, h2, _⟩ := h
  cases L with
  | nil => exact absurd rfl h2
  | cons a b => exact ⟨_, by rw [h1, slashed_cons]; rfl⟩
theorem PathOf.bytes {p : List UInt8} {L : List (List UInt8)} (h : PathOf p L) : ∀ c ∈ p, badC c = false ∧ c ≠ 35 ∧ c ≠ 63 := by
  intro c hc
  rw [h.1] at hc
  unfold Gl.slashed at hc
  obtain ⟨q, hq, hc⟩ := List.mem_flatMap.1 hc
  rcases List.mem_cons.1 hc with rfl | hc
  · decide
  · have := (h.2.2 q hq).2.2 c hc
    exact ⟨this.1, this.2.1, this.2.2.2⟩
theorem PathOf.again {p : List UInt8} {L : List (List UInt8)} (h : PathOf p L) : Gl.clean p = p := by
  obtain ⟨r, hr⟩ := h.head
  have hs := h.split
  have h2 : Gl.split 47 (p.drop 1) = L := by
    rw [hr] at hs
    have := split_some 47 [] r rfl
    rw [List.nil_append] at this
    rw [this] at hs
    injection hs with _ hs
    rw [hr]
    exact hs
  unfold Gl.clean
  rw [h2, cleanGo_same L [] (fun q hq => ⟨(h.2.2 q hq).1, (h.2.2 q hq).2.1⟩), List.nil_append, ← h.1]

/-! ### the URLs that are read -/
structure Norm (u : Gl.URL) : Prop where
  net : u.scheme = Gl.http ∨ u.scheme = Gl.https
  host : ∃ n, Gl.hostParse n = (u.host, 0)
  port : u.port = -1 ∨ ((∃ x, Gl.number x 65535 = some u.port) ∧ u.port ≠ Gl.own u.scheme)
  path : ∃ L, PathOf u.path L
  query : u.hasQuery = false → u.query = []
  good : ∀ c ∈ u.query, badC c = false ∧ c ≠ 35
  rest : u.rest = []
theorem Norm.isNet {u : Gl.URL} (h : Norm u) : Gl.isNet u = true := by
  unfold Gl.isNet
  rcases h.net with h | h <;> rw [h] <;> rfl

theorem hostC_no {c : UInt8} (h : hostC c) : badC c = false ∧ c ≠ 35 ∧ c ≠ 47 ∧ c ≠ 63 ∧ c ≠ 64 ∧ c ≠ 58 := by
  rcases h with h | rfl
  · unfold Gl.isSmall at h
    have h : 97 ≤ c.toNat ∧ c.toNat ≤ 122 ∨ 48 ≤ c.toNat ∧ c.toNat ≤ 57 ∨ c.toNat = 45 ∨ c.toNat = 95 := by simpa using h
    have e : badC c = false := by unfold badC; simp; omega
    refine ⟨e, ?_, ?_, ?_, ?_, ?_⟩ <;> (rintro rfl; revert h; decide)
  · decide
theorem digit_no {c : UInt8} (h : 48 ≤ c.toNat ∧ c.toNat ≤ 57) : badC c = false ∧ c ≠ 35 ∧ c ≠ 47 ∧ c ≠ 63 ∧ c ≠ 64 ∧ c ≠ 58 := by
  have e : badC c = false := by unfold badC; simp; omega
  refine ⟨e, ?_, ?_, ?_, ?_, ?_⟩ <;> (rintro rfl; revert h; decide)

/-- What a URL of http or https is behind its host. -/
def mkU (u : Gl.URL) (h : Gl.Host) (port : Int) (B : List UInt8) : Gl.URL := { u with host := h, port := port, path := Gl.clean (Gl.span [63] B).1, hasQuery := !(Gl.span [63] B).2.isEmpty, query := (Gl.span [63] B).2.drop 1 }
theorem web_parts (A B : List UInt8) (hA : ∀ c ∈ A, c ≠ 47 ∧ c ≠ 63) (hB : B = [] ∨ B.head? = some 47 ∨ B.head? = some 63) : Gl.span [47, 63] (A ++ B) = (A, B) := by
  have h1 : ∀ c ∈ A, ([47, 63] : List UInt8).contains c = false := by
    intro c hc
    obtain ⟨h1, h2⟩ := hA c hc
    simp [h1, h2]
  rcases hB with rfl | hB | hB
  · rw [List.append_nil]; exact span_no _ _ h1
  · cases B with
    | nil => cases hB
    | cons a r => obtain rfl : a = 47 := by simpa using hB
                  exact span_at _ _ _ _ h1 rfl
  · cases B with
    | nil => cases hB
    | cons a r => obtain rfl : a = 63 := by simpa using hB
                  exact span_at _ _ _ _ h1 rfl
theorem web_name (u : Gl.URL) (name B : List UInt8) (hA : ∀ c ∈ name, c ≠ 47 ∧ c ≠ 63 ∧ c ≠ 58) (hB : B = [] ∨ B.head? = some 47 ∨ B.head? = some 63) :
    Gl.web u (47 :: 47 :: (name ++ B)) = if name.contains 64 then ({}, 30) else if (Gl.hostParse name).2 ≠ 0 then ({}, (Gl.hostParse name).2) else (mkU u (Gl.hostParse name).1 u.port B, 0) := by
  have hs := web_parts name B (fun c hc => ⟨(hA c hc).1, (hA c hc).2.1⟩) hB
  have hn : Gl.span [58] name = (name, []) := span_no _ _ (fun c hc => by simp [(hA c hc).2.2])
  cases h64 : name.contains 64 with
  | true => rw [web_at u _ (by simp only [List.drop_succ_cons, List.drop_zero, hs]; exact h64)]; rfl
  | false =>
    rw [web_more u _ rfl (by simp only [List.drop_succ_cons, List.drop_zero, hs]; exact h64)]
    simp only [List.drop_succ_cons, List.drop_zero, hs, hn]
    rfl
theorem web_port (u : Gl.URL) (name pt B : List UInt8) (h0 : pt ≠ []) (hp : ∀ c ∈ pt, c ≠ 47 ∧ c ≠ 63 ∧ c ≠ 64) (hA : ∀ c ∈ name, c ≠ 47 ∧ c ≠ 63 ∧ c ≠ 58) (hB : B = [] ∨ B.head? = some 47 ∨ B.head? = some 63) :
    Gl.web u (47 :: 47 :: (name ++ 58 :: pt ++ B)) = if name.contains 64 then ({}, 30) else if (Gl.hostParse name).2 ≠ 0 then ({}, (Gl.hostParse name).2) else
      match Gl.number pt 65535 with
      | none => ({}, 32)
      | some n => (mkU u (Gl.hostParse name).1 (if n = Gl.own u.scheme then u.port else n) B, 0) := by
  have hs := web_parts (name ++ 58 :: pt) B (fun c hc => by
    rcases List.mem_append.1 hc with hc | hc
    · exact ⟨(hA c hc).1, (hA c hc).2.1⟩
    · rcases List.mem_cons.1 hc with rfl | hc
      · decide
      · exact ⟨(hp c hc).1, (hp c hc).2.1⟩) hB
  have hn : Gl.span [58] (name ++ 58 :: pt) = (name, 58 :: pt) := span_at _ _ _ _ (fun c hc => by simp [(hA c hc).2.2]) rfl
  have h64' : (name ++ 58 :: pt).contains 64 = name.contains 64 := by
    have : pt.contains 64 = false := by
      cases hc : pt.contains 64 with
      | false => rfl
      | true => exact absurd rfl (hp 64 (by simpa using hc)).2.2
    rw [Bool.eq_iff_iff]
    simp at this ⊢
    exact fun h => absurd h this
  have hl : 1 < (58 :: pt).length := by
    cases pt with
    | nil => exact absurd rfl h0
    | cons a b => simp
  cases h64 : name.contains 64 with
  | true => rw [web_at u _ (by simp only [List.drop_succ_cons, List.drop_zero, hs]; rw [h64']; exact h64)]; rfl
  | false =>
    rw [web_more u _ rfl (by simp only [List.drop_succ_cons, List.drop_zero, hs]; rw [h64']; exact h64)]
    simp only [List.drop_succ_cons, List.drop_zero, hs, hn]
    rw [if_pos hl]
    rfl
/-- A text that opens with a known scheme. -/
theorem core_url (inner : Gl.Bs → Bool) (S sc z l : List UInt8) (hS : Gl.lower S = sc) (hk : known sc = true) (hs : Gl.scheme sc = true) (h58 : ∀ c ∈ S, c ≠ 58) (hl : Gl.trim l = S ++ 58 :: z) (hlen : (S ++ 58 :: z).length ≤ 2000) :
    Gl.core inner l = core2 inner sc (Gl.span [35] z).1 := by
  have hsp : Gl.span [58] (Gl.trim l) = (S, 58 :: z) := by rw [hl]; exact span_at _ _ _ _ (fun c hc => by simp [h58 c hc]) rfl
  rw [core_rest inner l (by rw [hl]; omega) (by rw [hsp]; simp) (by rw [hsp]; simp only [hS]; exact hs)]
  rw [hsp]
  simp only [hS, hk, if_true, List.drop_succ_cons, List.drop_zero]

/-! ### a URL's text is read as itself -/
def portT (u : Gl.URL) : List UInt8 := if 0 ≤ u.port then 58 :: Lib.itoa u.port else []
def tailT (u : Gl.URL) : List UInt8 := u.path ++ (if u.hasQuery then 63 :: u.query else [])
theorem text_parts (u : Gl.URL) (h : Gl.isNet u = true) : Gl.urlText u = u.scheme ++ 58 :: 47 :: 47 :: (Gl.hostText u.host ++ portT u ++ tailT u) := by
  unfold Gl.urlText portT tailT
  rw [if_neg (by rw [h]; simp)]
  split <;> split <;> simp
theorem Norm.host_bytes {u : Gl.URL} (h : Norm u) : ∀ c ∈ Gl.hostText u.host, badC c = false ∧ c ≠ 35 ∧ c ≠ 47 ∧ c ≠ 63 ∧ c ≠ 64 ∧ c ≠ 58 := by
  obtain ⟨n, hn⟩ := h.host
  exact fun c hc => hostC_no ((host_back n _ hn).2.2.1 c hc)
theorem Norm.port_bytes {u : Gl.URL} (h : Norm u) : ∀ c ∈ portT u, badC c = false ∧ c ≠ 35 ∧ c ≠ 47 ∧ c ≠ 63 ∧ c ≠ 64 := by
  intro c hc
  unfold portT at hc
  split at hc
  · rename_i h0
    rcases h.port with hp | ⟨⟨x, hx⟩, _⟩
    · omega
    · rcases List.mem_cons.1 hc with rfl | hc
      · decide
      · rw [number_itoa hx] at hc
        have := digit_no (number_bytes hx c hc)
        exact ⟨this.1, this.2.1, this.2.2.1, this.2.2.2.1, this.2.2.2.2.1⟩
  · cases hc
theorem Norm.tail_bytes {u : Gl.URL} (h : Norm u) : ∀ c ∈ tailT u, badC c = false ∧ c ≠ 35 := by
  obtain ⟨L, hL⟩ := h.path
  intro c hc
  unfold tailT at hc
  rcases List.mem_append.1 hc with hc | hc
  · have := hL.bytes c hc; exact ⟨this.1, this.2.1⟩
  · split at hc
    · rcases List.mem_cons.1 hc with rfl | hc
      · decide
      · exact h.good c hc
    · cases hc
theorem Norm.rest_bytes {u : Gl.URL} (h : Norm u) : ∀ c ∈ 47 :: 47 :: (Gl.hostText u.host ++ portT u ++ tailT u), badC c = false ∧ c ≠ 35 := by
  intro c hc
  rcases List.mem_cons.1 hc with rfl | hc
  · decide
  rcases List.mem_cons.1 hc with rfl | hc
  · decide
  rcases List.mem_append.1 hc with hc | hc
  · rcases List.mem_append.1 hc with hc | hc
    · have := h.host_bytes c hc; exact ⟨this.1, this.2.1⟩
    · have := h.port_bytes c hc; exact ⟨this.1, this.2.1⟩
  · exact h.tail_bytes c hc
theorem bad_big {c : UInt8} (h : badC c = false) : 32 < c.toNat := by unfold badC at h; simp at h; omega
theorem Norm.text_bytes {u : Gl.URL} (h : Norm u) : ∀ c ∈ Gl.urlText u, badC c = false ∧ c ≠ 35 := by
  intro c hc
  rw [text_parts u h.isNet] at hc
  rcases List.mem_append.1 hc with hc | hc
  · have h1 : ∀ c ∈ Gl.http, badC c = false ∧ c ≠ 35 := by decide
    have h2 : ∀ c ∈ Gl.https, badC c = false ∧ c ≠ 35 := by decide
    rcases h.net with e | e <;> rw [e] at hc
    · exact h1 c hc
    · exact h2 c hc
  · rcases List.mem_cons.1 hc with rfl | hc
    · decide
    · exact h.rest_bytes c hc
theorem Norm.web {u : Gl.URL} (h : Norm u) : Gl.web { scheme := u.scheme, port := -1 } (47 :: 47 :: (Gl.hostText u.host ++ portT u ++ tailT u)) = (u, 0) := by
  obtain ⟨n, hn⟩ := h.host
  obtain ⟨hh, -, -, -⟩ := host_back n _ hn
  obtain ⟨L, hL⟩ := h.path
  have hhb := h.host_bytes
  have hA : ∀ c ∈ Gl.hostText u.host, c ≠ 47 ∧ c ≠ 63 ∧ c ≠ 58 := fun c hc => ⟨(hhb c hc).2.2.1, (hhb c hc).2.2.2.1, (hhb c hc).2.2.2.2.2⟩
  have h64 : (Gl.hostText u.host).contains 64 = false := by
    cases hc : (Gl.hostText u.host).contains 64 with
    | false => rfl
    | true => exact absurd rfl (hhb 64 (by simpa using hc)).2.2.2.2.1
  have hB : tailT u = [] ∨ (tailT u).head? = some 47 ∨ (tailT u).head? = some 63 := by
    obtain ⟨r, hr⟩ := hL.head
    right; left
    unfold tailT; rw [hr]; rfl
  have hq : Gl.span [63] (tailT u) = (u.path, if u.hasQuery then 63 :: u.query else []) := by
    have hp : ∀ c ∈ u.path, ([63] : List UInt8).contains c = false := fun c hc => by simp [(hL.bytes c hc).2.2]
    unfold tailT
    cases hq : u.hasQuery with
    | false => simp only [Bool.false_eq_true, if_false, List.append_nil]; exact span_no _ _ hp
    | true => simp only [if_true]; exact span_at _ _ _ _ hp rfl
  have hmk : ∀ p, p = u.port → mkU { scheme := u.scheme, port := -1 } u.host p (tailT u) = u := by
    rintro p rfl
    unfold mkU
    rw [hq]
    simp only
    rw [hL.again]
    have h1 := h.query
    have h2 := h.rest
    obtain ⟨a, b, c, d, e, f, g⟩ := u
    simp only at h1 h2 ⊢
    subst h2
    cases e with
    | false => simp [h1 rfl]
    | true => simp
  by_cases h0 : 0 ≤ u.port
  · obtain ⟨⟨x, hx⟩, hne⟩ : (∃ x, Gl.number x 65535 = some u.port) ∧ u.port ≠ Gl.own u.scheme := by
      rcases h.port with h | h
      · omega
      · exact h
    have hpt : portT u = 58 :: x := by unfold portT; rw [if_pos h0, number_itoa hx]
    have hx0 : x ≠ [] := by rintro rfl; simp [Gl.number] at hx
    have hxb : ∀ c ∈ x, c ≠ 47 ∧ c ≠ 63 ∧ c ≠ 64 := fun c hc => by have := digit_no (number_bytes hx c hc); exact ⟨this.2.2.1, this.2.2.2.1, this.2.2.2.2.1⟩
    rw [hpt, web_port _ _ x _ hx0 hxb hA hB, h64, hh, hx]
    simp only [Bool.false_eq_true, if_false, ne_eq, not_true_eq_false]
    rw [if_neg hne, hmk _ rfl]
  · have hp : u.port = -1 := by
      rcases h.port with h | ⟨⟨x, hx⟩, _⟩
      · exact h
      · have := number_range (by decide) hx; omega
    have hpt : portT u = [] := by unfold portT; rw [if_neg h0]
    rw [hpt, List.append_nil, web_name _ _ _ hA hB, h64, hh]
    simp only [Bool.false_eq_true, if_false, ne_eq, not_true_eq_false]
    rw [hmk _ hp.symm]
theorem Norm.any {u : Gl.URL} (h : Norm u) : (47 :: 47 :: (Gl.hostText u.host ++ portT u ++ tailT u)).any badC = false := by
  rw [List.any_eq_false]
  intro c hc
  rw [(h.rest_bytes c hc).1]; simp
theorem Norm.sch {u : Gl.URL} (h : Norm u) : Gl.lower u.scheme = u.scheme ∧ known u.scheme = true ∧ Gl.scheme u.scheme = true ∧ (∀ c ∈ u.scheme, c ≠ 58) ∧ u.scheme.length ≤ 5 := by
  rcases h.net with e | e <;> rw [e] <;> decide
/-- A URL's text is read as that URL. -/
theorem Norm.parse {u : Gl.URL} (h : Norm u) (hl : (Gl.urlText u).length ≤ 2000) : Gl.parse (Gl.urlText u) = (u, 0) := by
  obtain ⟨h1, h2, h3, h4, -⟩ := h.sch
  have ht := trim_good (Gl.urlText u) (fun c hc => bad_big (h.text_bytes c hc).1)
  rw [text_parts u h.isNet] at ht hl
  unfold Gl.parse
  rw [text_parts u h.isNet, core_url _ u.scheme u.scheme _ _ h1 h2 h3 h4 ht hl, span_no _ _ (fun c hc => by simp [(h.rest_bytes c hc).2]), core2_net _ _ _ h.any h.net]
  exact h.web
/-- A URL that is read, of http or https. -/
theorem norm_of (s : List UInt8) (he : (Gl.parse s).2 = 0) (hn : Gl.isNet (Gl.parse s).1 = true) : Norm (Gl.parse s).1 ∧ (Gl.urlText (Gl.parse s).1).length ≤ s.length + 1 := by
  have hlen := trim_len s
  unfold Gl.parse at he hn ⊢
  generalize Gl.netText = inner at *
  by_cases h0 : 2000 < (Gl.trim s).length
  · rw [core_long _ _ h0] at he; cases he
  by_cases h1 : (Gl.span [58] (Gl.trim s)).2 = [] ∨ Gl.scheme (Gl.lower (Gl.span [58] (Gl.trim s)).1) = false
  · rw [core_form _ _ h1] at he; cases he
  have h2 : (Gl.span [58] (Gl.trim s)).2 ≠ [] := fun e => h1 (Or.inl e)
  have h3 : Gl.scheme (Gl.lower (Gl.span [58] (Gl.trim s)).1) = true := by
    cases hh : Gl.scheme (Gl.lower (Gl.span [58] (Gl.trim s)).1) with
    | true => rfl
    | false => exact absurd (Or.inr hh) h1
  have l1 := span_len [58] (Gl.trim s)
  have l2 := span_len [35] ((Gl.span [58] (Gl.trim s)).2.drop 1)
  have l3 : (Gl.lower (Gl.span [58] (Gl.trim s)).1).length = (Gl.span [58] (Gl.trim s)).1.length := by simp [Gl.lower]
  have l4 : 0 < (Gl.span [58] (Gl.trim s)).2.length := List.length_pos_iff.2 h2
  rw [List.length_drop] at l2
  rw [core_rest _ _ h0 h2 h3] at he hn ⊢
  have h35 := (span_mem [35] ((Gl.span [58] (Gl.trim s)).2.drop 1)).1
  generalize Gl.lower (Gl.span [58] (Gl.trim s)).1 = sc at *
  generalize (Gl.span [35] ((Gl.span [58] (Gl.trim s)).2.drop 1)).1 = rest at *
  have h35 : ∀ c ∈ rest, c ≠ 35 := fun c hc => by have := (h35 c hc).2; simpa using this
  cases hk : known sc with
  | false => rw [hk] at he; cases he
  | true =>
    rw [hk] at he hn
    simp only [if_true] at he hn ⊢
    cases hb : rest.any badC with
    | true => rw [core2_bad _ _ _ hb] at he; cases he
    | false =>
      have hbad : ∀ c ∈ rest, badC c = false := fun c hc => by
        have := List.any_eq_false.1 hb c hc; simpa using this
      have hnet : sc = Gl.http ∨ sc = Gl.https := by
        have e1 : ∀ r, Gl.isNet ({ scheme := Gl.about, port := -1, rest := r } : Gl.URL) = false := fun _ => rfl
        have e2 : ∀ r, Gl.isNet ({ scheme := Gl.data, port := -1, rest := r } : Gl.URL) = false := fun _ => rfl
        have e3 : ∀ r, Gl.isNet ({ scheme := Gl.blob, port := -1, rest := r } : Gl.URL) = false := fun _ => rfl
        rcases known_cases hk with rfl | rfl | rfl | rfl | rfl
        · exact Or.inl rfl
        · exact Or.inr rfl
        · rw [core2_about _ _ hb] at he hn; split at he
          · cases he
          · rename_i h; rw [if_neg h] at hn; rw [e1] at hn; cases hn
        · rw [core2_data _ _ hb] at he hn; rw [e2] at hn; cases hn
        · rw [core2_blob _ _ hb] at he hn; split at he
          · rename_i h; rw [if_pos h] at hn; rw [e3] at hn; cases hn
          · cases he
      rw [core2_net _ _ _ hb hnet] at he hn ⊢
      cases hp2 : ([47, 47] : List UInt8).isPrefixOf rest with
      | false => rw [web_slash _ _ hp2] at he; cases he
      | true =>
        have l5 := prefix2_len hp2
        have l6 := span_len [47, 63] (rest.drop 2)
        have m1 := span_mem [47, 63] (rest.drop 2)
        have hpt := span_path (rest.drop 2)
        rw [List.length_drop] at l6
        cases h64 : (Gl.span [47, 63] (rest.drop 2)).1.contains 64 with
        | true => rw [web_at _ _ h64] at he; cases he
        | false =>
          rw [web_more _ _ hp2 h64] at he hn ⊢
          have hdr : ∀ c ∈ rest.drop 2, badC c = false ∧ c ≠ 35 := fun c hc => ⟨hbad c (List.mem_of_mem_drop hc), h35 c (List.mem_of_mem_drop hc)⟩
          generalize Gl.span [47, 63] (rest.drop 2) = ab at *
          obtain ⟨A, B⟩ := ab
          simp only at *
          have l7 := span_len [58] A
          have l8 := span_len [63] B
          have m2 := span_mem [63] B
          have hhd := span_head [63] B
          generalize Gl.span [58] A = np at *
          obtain ⟨name, pt⟩ := np
          generalize Gl.span [63] B = pq at *
          obtain ⟨pa, qu⟩ := pq
          simp only at *
          have hpab : ∀ c ∈ pa, badC c = false ∧ c ≠ 35 ∧ c ≠ 63 := fun c hc => by
            obtain ⟨h1, h2⟩ := m2.1 c hc
            have := hdr c (m1.2 c h1)
            exact ⟨this.1, this.2, by simpa using h2⟩
          have hqub : ∀ c ∈ qu, badC c = false ∧ c ≠ 35 := fun c hc => hdr c (m1.2 c (m2.2 c hc))
          generalize hh : Gl.hostParse name = hp at *
          obtain ⟨hst, e⟩ := hp
          simp only at *
          by_cases he0 : e = 0
          · subst he0
            rw [if_neg (by simp)] at he hn ⊢
            have lc := clean_len pa
            have key : ∀ port : Int, (port = -1 ∨ ((∃ x, Gl.number x 65535 = some port) ∧ port ≠ Gl.own sc)) → (if 0 ≤ port then (Lib.itoa port).length + 1 else 0) ≤ pt.length →
                Norm ({ scheme := sc, host := hst, port := port, path := Gl.clean pa, hasQuery := !qu.isEmpty, query := qu.drop 1 } : Gl.URL) ∧ (Gl.urlText ({ scheme := sc, host := hst, port := port, path := Gl.clean pa, hasQuery := !qu.isEmpty, query := qu.drop 1 } : Gl.URL)).length ≤ s.length + 1 := by
              intro port hport hpl
              have hN : Norm ({ scheme := sc, host := hst, port := port, path := Gl.clean pa, hasQuery := !qu.isEmpty, query := qu.drop 1 } : Gl.URL) := by
                refine ⟨hnet, ⟨name, hh⟩, hport, clean_path pa hpab, ?_, fun c hc => hqub c (List.mem_of_mem_drop hc), rfl⟩
                intro hq
                cases qu with
                | nil => rfl
                | cons a b => cases hq
              refine ⟨hN, ?_⟩
              rw [text_parts _ hN.isNet]
              have hhl := (host_back name hst hh).2.2.2
              have ht : (tailT ({ scheme := sc, host := hst, port := port, path := Gl.clean pa, hasQuery := !qu.isEmpty, query := qu.drop 1 } : Gl.URL)).length ≤ pa.length + 1 + qu.length := by
                unfold tailT
                cases qu with
                | nil => simp; omega
                | cons a b => simp; omega
              have hp : (portT ({ scheme := sc, host := hst, port := port, path := Gl.clean pa, hasQuery := !qu.isEmpty, query := qu.drop 1 } : Gl.URL)).length ≤ pt.length := by
                unfold portT
                simp only
                split at hpl <;> rename_i hc
                · rw [if_pos hc]; simpa using hpl
                · rw [if_neg hc]; simp
              simp only [List.length_append, List.length_cons] at *
              omega
            split at he
            · rename_i hlt
              rw [if_pos hlt] at hn ⊢
              cases hnum : Gl.number (pt.drop 1) 65535 with
              | none => rw [hnum] at he; cases he
              | some n =>
                simp only
                have hr := number_range (by decide) hnum
                by_cases ho : n = Gl.own sc
                · rw [if_pos ho]
                  exact key (-1) (Or.inl rfl) (by simp)
                · rw [if_neg ho]
                  refine key n (Or.inr ⟨⟨_, hnum⟩, ho⟩) ?_
                  rw [if_pos hr.1, number_itoa hnum, List.length_drop]
                  omega
            · rename_i hlt
              rw [if_neg hlt] at hn ⊢
              exact key (-1) (Or.inl rfl) (by simp)
          · rw [if_pos he0] at he
            exact absurd he he0
end Go.Proofs.YtbafofldgkigmaaGreatDoor
