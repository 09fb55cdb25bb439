/- URLs of http or https, read and written again: the plain part. -/
import Derived.Test.YtbafofldgkigmaaGreatDoorThree
import Derived.Test.YtbafofldgkigmaaGreatDoorTwo
import Derived.Lib.ItoaMem
namespace Go.Proofs.YtbafofldgkigmaaGreatDoor

/-! ### numbers -/
theorem dec_snoc (m d : Nat) (hm : 1 ≤ m) (hd : d < 10) : Lib.decDigits (10 * m + d) = Lib.decDigits m ++ [UInt8.ofNat (48 + d)] := by
  rw [Lib.decDigits, dif_neg (by omega)]
  rw [show (10 * m + d) / 10 = m by omega, show (10 * m + d) % 10 = d by omega]
theorem ofNat_digit (c : UInt8) (h : 48 ≤ c.toNat) : UInt8.ofNat (48 + (c.toNat - 48)) = c := by
  rw [show 48 + (c.toNat - 48) = c.toNat by omega]
  simp
theorem numGo_dec {most : Int} : ∀ (r : List UInt8) (m : Nat) (n : Int), 1 ≤ m → Gl.numGo most (m : Int) r = some n → 0 ≤ n ∧ Lib.decDigits n.toNat = Lib.decDigits m ++ r := by
  intro r
  induction r with
  | nil =>
    intro m n _ h
    simp [Gl.numGo] at h
    subst h
    simp
  | cons c r ih =>
    intro m n hm h
    unfold Gl.numGo at h
    split at h
    · cases h
    · rename_i h1
      split at h
      · cases h
      · have e : (10 * (m : Int) + ((c.toNat : Int) - 48)) = ((10 * m + (c.toNat - 48) : Nat) : Int) := by omega
        rw [e] at h
        obtain ⟨h2, h3⟩ := ih _ _ (by omega) h
        refine ⟨h2, ?_⟩
        rw [h3, dec_snoc _ _ hm (by omega), ofNat_digit c (by omega), List.append_assoc]
        rfl
theorem number_itoa {s : List UInt8} {most n : Int} (h : Gl.number s most = some n) : Lib.itoa n = s := by
  unfold Gl.number at h
  split at h
  · cases h
  · rename_i h0
    cases s with
    | nil => exact absurd (Or.inl rfl) h0
    | cons c r =>
      have h1 : ¬ (c = 48 ∧ 0 < r.length) := fun h => h0 (Or.inr (by simpa using h))
      unfold Gl.numGo at h
      split at h
      · cases h
      · rename_i h2
        split at h
        · cases h
        · by_cases hc : c = 48
          · subst hc
            obtain rfl : r = [] := by
              cases r with
              | nil => rfl
              | cons a b => exact absurd ⟨rfl, by simp⟩ h1
            simp [Gl.numGo] at h
            subst h
            decide +kernel
          · have hc2 : c.toNat ≠ 48 := fun e => hc (by apply UInt8.toNat_inj.1; exact e)
            have e : (10 * (0 : Int) + ((c.toNat : Int) - 48)) = ((c.toNat - 48 : Nat) : Int) := by omega
            rw [e] at h
            obtain ⟨h3, h4⟩ := numGo_dec r _ _ (by omega) h
            have e2 : n = (n.toNat : Int) := by omega
            rw [e2, Lib.itoa_nonneg, h4, Lib.decDigits_one (by omega), ofNat_digit c (by omega)]
            rfl
theorem number_bytes {s : List UInt8} {most n : Int} (h : Gl.number s most = some n) : ∀ c ∈ s, 48 ≤ c.toNat ∧ c.toNat ≤ 57 := by
  have go : ∀ (r : List UInt8) (m : Int) (n : Int), Gl.numGo most m r = some n → ∀ c ∈ r, 48 ≤ c.toNat ∧ c.toNat ≤ 57 := by
    intro r
    induction r with
    | nil => intro _ _ _ c hc; cases hc
    | cons a r ih =>
      intro m n h
      unfold Gl.numGo at h
      split at h
      · cases h
      · rename_i h1
        split at h
        · cases h
        · intro c hc
          rcases List.mem_cons.1 hc with rfl | hc
          · omega
          · exact ih _ _ h c hc
  unfold Gl.number at h
  split at h
  · cases h
  · exact go _ _ _ h

/-! ### parts -/
theorem splitGo_bytes (c : UInt8) (l : List UInt8) : ∀ p, ∀ x, x ∈ p ∨ x ∈ l → x = c ∨ ∃ q ∈ Gl.splitGo c p l, x ∈ q := by
  induction l with
  | nil => intro p x h; rcases h with h | h; exact Or.inr ⟨p, by simp [Gl.splitGo], h⟩; cases h
  | cons a r ih =>
    intro p x h
    unfold Gl.splitGo
    split
    · rename_i e
      rcases h with h | h
      · exact Or.inr ⟨p, by simp, h⟩
      · rcases List.mem_cons.1 h with rfl | h
        · exact Or.inl e
        · rcases ih [] x (Or.inr h) with h | ⟨q, hq, hx⟩
          · exact Or.inl h
          · exact Or.inr ⟨q, List.mem_cons_of_mem _ hq, hx⟩
    · refine ih (p ++ [a]) x ?_
      rcases h with h | h
      · exact Or.inl (by simp [h])
      · rcases List.mem_cons.1 h with rfl | h
        · exact Or.inl (by simp)
        · exact Or.inr h
theorem split_bytes (c : UInt8) (l : List UInt8) (x : UInt8) (h : x ∈ l) : x = c ∨ ∃ q ∈ Gl.split c l, x ∈ q := splitGo_bytes c l [] x (Or.inr h)
theorem splitGo_from (c : UInt8) (l : List UInt8) : ∀ p, ∀ q ∈ Gl.splitGo c p l, ∀ x ∈ q, x ∈ p ∨ (x ∈ l ∧ x ≠ c) := by
  induction l with
  | nil => intro p q hq x hx; simp [Gl.splitGo] at hq; subst hq; exact Or.inl hx
  | cons a r ih =>
    intro p q hq x hx
    unfold Gl.splitGo at hq
    split at hq
    · rcases List.mem_cons.1 hq with rfl | hq
      · exact Or.inl hx
      · rcases ih [] q hq x hx with h | ⟨h, h2⟩
        · cases h
        · exact Or.inr ⟨List.mem_cons_of_mem _ h, h2⟩
    · rename_i e
      rcases ih (p ++ [a]) q hq x hx with h | ⟨h, h2⟩
      · rcases List.mem_append.1 h with h | h
        · exact Or.inl h
        · simp at h; subst h; exact Or.inr ⟨by simp, e⟩
      · exact Or.inr ⟨List.mem_cons_of_mem _ h, h2⟩
theorem split_from (c : UInt8) (l q : List UInt8) (hq : q ∈ Gl.split c l) (x : UInt8) (hx : x ∈ q) : x ∈ l ∧ x ≠ c := by
  rcases splitGo_from c l [] q hq x hx with h | h
  · cases h
  · exact h
theorem split_join (c : UInt8) (l : List UInt8) : (Gl.split c l).flatMap (c :: ·) = c :: l := by
  have : ∀ (l p : List UInt8), (Gl.splitGo c p l).flatMap (c :: ·) = c :: (p ++ l) := by
    intro l
    induction l with
    | nil => intro p; simp [Gl.splitGo]
    | cons a r ih =>
      intro p
      unfold Gl.splitGo
      split
      · rename_i e; subst e; simp [ih]
      · rw [ih]; simp
  exact this l []
theorem split_slashed (L : List (List UInt8)) (h : ∀ p ∈ L, ∀ x ∈ p, x ≠ 47) : Gl.split 47 (Gl.slashed L) = [] :: L := by
  induction L with
  | nil => rfl
  | cons a r ih =>
    have hr := ih (fun p hp => h p (List.mem_cons_of_mem _ hp))
    cases r with
    | nil =>
      show Gl.split 47 (Gl.slashed [a]) = _
      rw [show Gl.slashed [a] = [] ++ 47 :: a by simp [Gl.slashed], split_some 47 [] a rfl, split_none 47 a]
      have := h a (by simp)
      cases hc : a.contains 47 with
      | false => rfl
      | true => exact absurd rfl (this 47 (by simpa using hc))
    | cons b r =>
      rw [show Gl.slashed (a :: b :: r) = [] ++ 47 :: (a ++ 47 :: (b ++ Gl.slashed r)) by simp [Gl.slashed], split_some 47 [] _ rfl]
      rw [show Gl.slashed (b :: r) = [] ++ 47 :: (b ++ Gl.slashed r) by simp [Gl.slashed], split_some 47 [] _ rfl] at hr
      rw [split_some 47 a]
      · injection hr with _ hr; rw [hr]
      · have := h a (by simp)
        cases hc : a.contains 47 with
        | false => rfl
        | true => exact absurd rfl (this 47 (by simpa using hc))

/-! ### hosts -/
theorem low_low (c : UInt8) : Gl.low (Gl.low c) = Gl.low c := by
  unfold Gl.low
  by_cases h : 65 ≤ c.toNat ∧ c.toNat ≤ 90
  · rw [if_pos h]
    have : (c + 32).toNat = c.toNat + 32 := by rw [UInt8.toNat_add]; have : (32 : UInt8).toNat = 32 := rfl; omega
    rw [if_neg (by omega)]
  · rw [if_neg h, if_neg h]
theorem lower_lower (l : List UInt8) : Gl.lower (Gl.lower l) = Gl.lower l := by
  unfold Gl.lower
  rw [List.map_map]
  exact List.map_congr_left fun c _ => low_low c
/-- A host's text: small letters, digits, and the like, and points. -/
def hostC (c : UInt8) : Prop := Gl.isSmall c = true ∨ c = 46
theorem four_at (a b c d : Nat) (ha : a < 256) (hb : b < 256) (hc : c < 256) (hd : d < 256) :
    let x := (((0 * 256 + a) % 4294967296 * 256 + b) % 4294967296 * 256 + c) % 4294967296 * 256 + d
    x % 4294967296 / 2 ^ 24 % 256 = a ∧ x % 4294967296 / 2 ^ 16 % 256 = b ∧ x % 4294967296 / 2 ^ 8 % 256 = c ∧ x % 4294967296 / 2 ^ 0 % 256 = d := by
  intro x
  refine ⟨?_, ?_, ?_, ?_⟩ <;> omega
theorem hostOf_back (s : List UInt8) (h : Gl.Host) (hs : Gl.hostOf s = (h, 0)) : Gl.hostText h = s ∧ h.addr < 4294967296 ∧ ∀ c ∈ s, hostC c := by
  unfold Gl.hostOf at hs
  split at hs
  · cases hs
  · unfold Gl.host1 at hs
    split at hs
    · cases hs
    · rename_i hl
      have hl : (Gl.split 46 s).all Gl.isLabel = true := by simpa using hl
      have hb : ∀ c ∈ s, hostC c := by
        intro c hc
        rcases split_bytes 46 s c hc with h | ⟨q, hq, hx⟩
        · exact Or.inr h
        · have := List.all_eq_true.1 hl q hq
          unfold Gl.isLabel at this
          rw [Bool.and_eq_true] at this
          exact Or.inl (List.all_eq_true.1 this.2 c hx)
      unfold Gl.host2 at hs
      split at hs
      · cases hs
        exact ⟨rfl, by show (0 : Nat) < _; omega, hb⟩
      · split at hs
        · cases hs
        · rename_i h4
          have h4 : (Gl.split 46 s).length = 4 := by simpa using h4
          have hj := split_join 46 s
          match hL : Gl.split 46 s, h4 with
          | [p, q, r, t], _ =>
            rw [hL] at hs hj
            unfold Gl.host3 at hs
            split at hs
            · cases hs
            · rename_i a ha
              cases hs
              unfold Gl.addrGo at ha
              split at ha
              · cases ha
              rename_i n0 h0
              unfold Gl.addrGo at ha
              split at ha
              · cases ha
              rename_i n1 h1
              unfold Gl.addrGo at ha
              split at ha
              · cases ha
              rename_i n2 h2
              unfold Gl.addrGo at ha
              split at ha
              · cases ha
              rename_i n3 h3
              unfold Gl.addrGo at ha
              injection ha with ha
              have r0 := number_range (by decide) h0
              have r1 := number_range (by decide) h1
              have r2 := number_range (by decide) h2
              have r3 := number_range (by decide) h3
              obtain ⟨f0, f1, f2, f3⟩ := four_at n0.toNat n1.toNat n2.toNat n3.toNat (by omega) (by omega) (by omega) (by omega)
              rw [ha] at f0 f1 f2 f3
              refine ⟨?_, by rw [← ha]; exact Nat.mod_lt _ (by decide), hb⟩
              unfold Gl.hostText
              rw [if_pos rfl]
              have g0 : Gl.four a 0 = p := by
                unfold Gl.four; rw [show 24 - 8 * 0 = 24 from rfl, f0, Int.toNat_of_nonneg r0.1]; exact number_itoa h0
              have g1 : Gl.four a 1 = q := by
                unfold Gl.four; rw [show 24 - 8 * 1 = 16 from rfl, f1, Int.toNat_of_nonneg r1.1]; exact number_itoa h1
              have g2 : Gl.four a 2 = r := by
                unfold Gl.four; rw [show 24 - 8 * 2 = 8 from rfl, f2, Int.toNat_of_nonneg r2.1]; exact number_itoa h2
              have g3 : Gl.four a 3 = t := by
                unfold Gl.four; rw [show 24 - 8 * 3 = 0 from rfl, f3, Int.toNat_of_nonneg r3.1]; exact number_itoa h3
              show Gl.four a 0 ++ [46] ++ Gl.four a 1 ++ [46] ++ Gl.four a 2 ++ [46] ++ Gl.four a 3 = s
              rw [g0, g1, g2, g3]
              simp at hj
              simp [hj]
theorem host_back (n : List UInt8) (h : Gl.Host) (hn : Gl.hostParse n = (h, 0)) : Gl.hostParse (Gl.hostText h) = (h, 0) ∧ h.addr < 4294967296 ∧ (∀ c ∈ Gl.hostText h, hostC c) ∧ (Gl.hostText h).length = n.length := by
  unfold Gl.hostParse at hn ⊢
  obtain ⟨h1, h2, h3⟩ := hostOf_back _ _ hn
  rw [h1]
  refine ⟨by rw [lower_lower]; exact hn, h2, h3, by simp [Gl.lower]⟩
end Go.Proofs.YtbafofldgkigmaaGreatDoor
