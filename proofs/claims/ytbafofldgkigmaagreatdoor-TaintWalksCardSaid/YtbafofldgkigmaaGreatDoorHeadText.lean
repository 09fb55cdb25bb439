/- Texts of heads: trimmed, and the same but for great letters: of the program and of the reference. -/
import Derived.Test.YtbafofldgkigmaaGreatDoorShelfT
import Derived.Test.YtbafofldgkigmaaGreatDoorTwo
import Derived.IntWalk
namespace Go.Proofs.YtbafofldgkigmaaGreatDoor
open Go.RowKit
attribute [local irreducible] Calls
def Gl.blanksS : List UInt8 := [9, 10, 12, 13, 32]
def Gl.trimH (s : List UInt8) : List UInt8 := Lib.trimS s Gl.blanksS
def Gl.foldS (a b : List UInt8) : Bool := Gl.lower a == Gl.lower b
theorem trimH_len (s : List UInt8) : (Gl.trimH s).length ≤ s.length := by
  have h1 : ∀ (p : UInt8 → Bool) (l : List UInt8), (l.dropWhile p).length ≤ l.length := fun p l => (List.dropWhile_sublist p).length_le
  unfold Gl.trimH Lib.trimS Lib.trimLeftS Lib.trimRightS
  have a := h1 (Gl.blanksS.contains ·) ((s.reverse.dropWhile (Gl.blanksS.contains ·)).reverse)
  have b := h1 (Gl.blanksS.contains ·) s.reverse
  simp only [List.length_reverse] at a b
  omega
theorem octet_trim (s : List UInt8) (w : World) (hs : s.length ≤ 281474976710656) : Calls Tryz.prog 100 #[(Value.string ⟨(s).toArray⟩)] w (Ret w ((Value.string ⟨(Gl.trimH s).toArray⟩))) := by
  have h := Tryz.strings_Trim ⟨s.toArray⟩ ⟨#[9, 10, 12, 13, 32]⟩ w (by show s.toArray.size ≤ _; simp; omega) (by decide) (Go.Proofs.ascii_of_all (by decide))
  have h2 : Calls Tryz.prog 124 #[(Value.string ⟨(s).toArray⟩), .string ⟨#[9, 10, 12, 13, 32]⟩] w (Ret w ((Value.string ⟨(Gl.trimH s).toArray⟩))) := h
  replace h2 := Lib.hid h2
  clear h
  go_enter Tryz.func100, Tryz.ntmps100
  go_wp2_with (go_at_call 124; refine (h2.out).mono ?_; rintro e w1 ⟨rfl, hb⟩; obtain ⟨hc, hfz⟩ := bcell hb; have hz := hb.size; (try simp at hz); (try have hz0 := lt_ hb w.heap.size); (try have hz1 := lt_ hb (w.heap.size + 1)); (try have hz2 := lt_ hb (w.heap.size + 2)); (try have hz3 := lt_ hb (w.heap.size + 3)); (try have hcA := fun o => hc w.heap.size o sz_); (try have hcB := fun o => hc (w.heap.size + 1) o sz_))
  go_ret
  exact ⟨rfl, bw_⟩
theorem octet_fold (a b : List UInt8) (w : World) (ha : a.length ≤ 281474976710656) (hb0 : b.length ≤ 281474976710656) : Calls Tryz.prog 99 #[(Value.string ⟨(a).toArray⟩), (Value.string ⟨(b).toArray⟩)] w (Ret w (.bool (Gl.foldS a b))) := by
  have h1 := fun W => octet_lower a W ha
  have h2 := fun W => octet_lower b W hb0
  unfold Gl.foldS
  generalize Gl.lower a = x at *
  generalize Gl.lower b = y at *
  replace h1 := Lib.hid h1
  replace h2 := Lib.hid h2
  go_enter Tryz.func99, Tryz.ntmps99
  go_wp2_with (first | ((first | (go_at_call 51; refine (h1.out _).mono ?_) | (go_at_call 51; refine (h2.out _).mono ?_)); rintro e w1 ⟨rfl, hb⟩; obtain ⟨hc, hfz⟩ := bcell hb; have hz := hb.size; (try simp at hz); (try have hz0 := lt_ hb w.heap.size); (try have hz1 := lt_ hb (w.heap.size + 1)); (try have hz2 := lt_ hb (w.heap.size + 2)); (try have hz3 := lt_ hb (w.heap.size + 3)); (try have hcA := fun o => hc w.heap.size o sz_); (try have hcB := fun o => hc (w.heap.size + 1) o sz_)))
  go_ret
  exact ⟨rfl, bw_⟩
theorem ref1_fold (a b : List UInt8) (w : World) (ha : a.length ≤ 281474976710656) (hb0 : b.length ≤ 281474976710656) : Calls Tryz.prog 120 #[(Value.string ⟨(a).toArray⟩), (Value.string ⟨(b).toArray⟩)] w (Ret w (.bool (Gl.foldS a b))) := by
  have h1 := fun W => ref1_lower a W ha
  have h2 := fun W => ref1_lower b W hb0
  unfold Gl.foldS
  generalize Gl.lower a = x at *
  generalize Gl.lower b = y at *
  replace h1 := Lib.hid h1
  replace h2 := Lib.hid h2
  go_enter Tryz.func120, Tryz.ntmps120
  go_wp2_with (first | ((first | (go_at_call 141; refine (h1.out _).mono ?_) | (go_at_call 141; refine (h2.out _).mono ?_)); rintro e w1 ⟨rfl, hb⟩; obtain ⟨hc, hfz⟩ := bcell hb; have hz := hb.size; (try simp at hz); (try have hz0 := lt_ hb w.heap.size); (try have hz1 := lt_ hb (w.heap.size + 1)); (try have hz2 := lt_ hb (w.heap.size + 2)); (try have hz3 := lt_ hb (w.heap.size + 3)); (try have hcA := fun o => hc w.heap.size o sz_); (try have hcB := fun o => hc (w.heap.size + 1) o sz_)))
  go_ret
  exact ⟨rfl, bw_⟩
theorem ref1_blank (c : UInt8) (w : World) : Calls Tryz.prog 142 #[.int .u8 (c.toNat : Int)] w (Ret w (.bool (Gl.blanksS.contains c))) := by
  by_cases h9 : c = 9
  · subst h9
    rw [show (((9 : UInt8).toNat : Nat) : Int) = 9 from rfl, show Gl.blanksS.contains 9 = true from rfl]
    go_enter Tryz.func142, Tryz.ntmps142
    go_wp2
    go_ret
    exact ⟨rfl, bw_⟩
  by_cases h10 : c = 10
  · subst h10
    rw [show (((10 : UInt8).toNat : Nat) : Int) = 10 from rfl, show Gl.blanksS.contains 10 = true from rfl]
    go_enter Tryz.func142, Tryz.ntmps142
    go_wp2
    go_ret
    exact ⟨rfl, bw_⟩
  by_cases h12 : c = 12
  · subst h12
    rw [show (((12 : UInt8).toNat : Nat) : Int) = 12 from rfl, show Gl.blanksS.contains 12 = true from rfl]
    go_enter Tryz.func142, Tryz.ntmps142
    go_wp2
    go_ret
    exact ⟨rfl, bw_⟩
  by_cases h13 : c = 13
  · subst h13
    rw [show (((13 : UInt8).toNat : Nat) : Int) = 13 from rfl, show Gl.blanksS.contains 13 = true from rfl]
    go_enter Tryz.func142, Tryz.ntmps142
    go_wp2
    go_ret
    exact ⟨rfl, bw_⟩
  by_cases h32 : c = 32
  · subst h32
    rw [show (((32 : UInt8).toNat : Nat) : Int) = 32 from rfl, show Gl.blanksS.contains 32 = true from rfl]
    go_enter Tryz.func142, Tryz.ntmps142
    go_wp2
    go_ret
    exact ⟨rfl, bw_⟩
  have hR : Gl.blanksS.contains c = false := by
    unfold Gl.blanksS
    simp [h9, h10, h12, h13, h32]
  rw [hR]
  have f9 : ((c.toNat : Int) == 9) = false := by
    rw [beq_eq_false_iff_ne]
    intro e
    exact h9 (UInt8.toNat_inj.1 (show c.toNat = (9 : UInt8).toNat by show c.toNat = 9; omega))
  have f10 : ((c.toNat : Int) == 10) = false := by
    rw [beq_eq_false_iff_ne]
    intro e
    exact h10 (UInt8.toNat_inj.1 (show c.toNat = (10 : UInt8).toNat by show c.toNat = 10; omega))
  have f12 : ((c.toNat : Int) == 12) = false := by
    rw [beq_eq_false_iff_ne]
    intro e
    exact h12 (UInt8.toNat_inj.1 (show c.toNat = (12 : UInt8).toNat by show c.toNat = 12; omega))
  have f13 : ((c.toNat : Int) == 13) = false := by
    rw [beq_eq_false_iff_ne]
    intro e
    exact h13 (UInt8.toNat_inj.1 (show c.toNat = (13 : UInt8).toNat by show c.toNat = 13; omega))
  have f32 : ((c.toNat : Int) == 32) = false := by
    rw [beq_eq_false_iff_ne]
    intro e
    exact h32 (UInt8.toNat_inj.1 (show c.toNat = (32 : UInt8).toNat by show c.toNat = 32; omega))
  clear hR h9 h10 h12 h13 h32
  generalize (c.toNat : Int) = z at *
  go_enter Tryz.func142, Tryz.ntmps142
  go_wp2
  go_ret
  exact ⟨rfl, bw_⟩
/-- From the first byte that is no blank to behind the last. -/
theorem trimH_cut (s : List UInt8) (a b : Nat) (hab : a ≤ b) (hb0 : b ≤ s.length) (h1 : ∀ (j : Nat) x, j < a → s[j]? = some x → Gl.blanksS.contains x = true) (h2 : a < s.length → ∀ x, s[a]? = some x → Gl.blanksS.contains x = false) (h3 : ∀ (j : Nat) x, b ≤ j → s[j]? = some x → Gl.blanksS.contains x = true) (h4 : a < b → ∀ x, s[b - 1]? = some x → Gl.blanksS.contains x = false) :
    Gl.trimH s = (s.take b).drop a := by
  unfold Gl.trimH Lib.trimS
  by_cases hlt : a < b
  · rw [Lib.trimRightS_take s _ b hb0 h3 (fun x _ hx => h4 hlt x hx)]
    refine Lib.trimLeftS_drop _ _ a (by simp; omega) (fun j x hj hx => ?_) (fun x hx => ?_)
    · rw [List.getElem?_take, if_pos (by omega)] at hx
      exact h1 j x hj hx
    · rw [List.getElem?_take, if_pos (by omega)] at hx
      exact h2 (by omega) x hx
  · have eab : b = a := by omega
    subst eab
    rw [show (s.take b).drop b = [] by simp]
    have hall : ∀ (j : Nat) x, s[j]? = some x → Gl.blanksS.contains x = true := fun j x hx => by
      by_cases hj : j < b
      · exact h1 j x hj hx
      · exact h3 j x (by omega) hx
    rw [Lib.trimRightS_take s _ 0 (Nat.zero_le _) (fun j x _ hx => hall j x hx) (fun x h _ => absurd h (Nat.lt_irrefl _))]
    rfl
set_option maxRecDepth 100000 in
set_option maxHeartbeats 2000000 in
theorem ref1_trim (s : List UInt8) (w : World) (hs : s.length ≤ 281474976710656) : Calls Tryz.prog 121 #[(Value.string ⟨(s).toArray⟩)] w (Ret w ((Value.string ⟨(Gl.trimH s).toArray⟩))) := by
  have hbl := fun c W => ref1_blank c W
  replace hbl := Lib.hid hbl
  generalize hR : Gl.trimH s = R at *
  replace hR := Lib.hid hR
  go_enter Tryz.func121, Tryz.ntmps121
  go_upto_block 0 with fail
  go_cut [3] from 5 (fun x3 w' => ∃ a : Nat, x3 = .int .i64 a ∧ a ≤ s.length ∧ Below w.heap.size w w' ∧ Hid (∀ (j : Nat) x, j < a → s[j]? = some x → Gl.blanksS.contains x = true) ∧ Hid (a < s.length → ∀ x, s[a]? = some x → Gl.blanksS.contains x = false))
  case first =>
    go_wp2
    go_loopw [3] (fun i wr => ∃ a : Nat, a ≤ s.length ∧ i = .int .i64 a ∧ Below w.heap.size w wr ∧ Hid (∀ (j : Nat) x, j < a → s[j]? = some x → Gl.blanksS.contains x = true)) (fun i _ => s.length - (intOf i).toNat)
    case atStart => exact ⟨0, Nat.zero_le _, rfl, bw_, Lib.hid (fun j x h => absurd h (Nat.not_lt_zero _))⟩
    case round =>
      obtain ⟨a, ha, rfl, hw0, h1⟩ := hrel
      have hwz := hw0.size
      by_cases hlt : a < s.length
      · have hq := fun W => hbl.out s[a] W
        cases hc : Gl.blanksS.contains s[a]
        · rw [hc] at hq
          have h2 : Hid (a < s.length → ∀ x, s[a]? = some x → Gl.blanksS.contains x = false) := Lib.hid (fun h x hx => by
            rw [List.getElem?_eq_getElem h] at hx
            injection hx with hx
            rw [← hx]
            exact hc)
          replace hc := Lib.hid hc
          replace hq := Lib.hid hq
          go_wp2_with (go_at_call 142; refine (hq.out _).mono ?_; rintro e w1 ⟨rfl, hb⟩; obtain ⟨hc, hfz⟩ := bcell hb; have hz := hb.size; (try simp at hz); (try have hz0 := lt_ hb w.heap.size); (try have hz1 := lt_ hb (w.heap.size + 1)); (try have hz2 := lt_ hb (w.heap.size + 2)); (try have hz3 := lt_ hb (w.heap.size + 3)); (try have hcA := fun o => hc w.heap.size o sz_); (try have hcB := fun o => hc (w.heap.size + 1) o sz_))
          go_meet
          case rel => exact ⟨a, rfl, ha, bw_, h1, h2⟩
        · rw [hc] at hq
          have h3 : Hid (∀ (j : Nat) x, j < a + 1 → s[j]? = some x → Gl.blanksS.contains x = true) := Lib.hid (fun j x hj hx => by
            by_cases hja : j < a
            · exact h1.out j x hja hx
            · obtain rfl : j = a := by omega
              rw [List.getElem?_eq_getElem hlt] at hx
              injection hx with hx
              rw [← hx]
              exact hc)
          replace hc := Lib.hid hc
          replace hq := Lib.hid hq
          go_wp2_with (go_at_call 142; refine (hq.out _).mono ?_; rintro e w1 ⟨rfl, hb⟩; obtain ⟨hc, hfz⟩ := bcell hb; have hz := hb.size; (try simp at hz); (try have hz0 := lt_ hb w.heap.size); (try have hz1 := lt_ hb (w.heap.size + 1)); (try have hz2 := lt_ hb (w.heap.size + 2)); (try have hz3 := lt_ hb (w.heap.size + 3)); (try have hcA := fun o => hc w.heap.size o sz_); (try have hcB := fun o => hc (w.heap.size + 1) o sz_))
          go_roundw
          case rel => exact ⟨a + 1, by omega, by go_num, bw_, h3⟩
          case measure => simp [intOf]; omega
      · go_wp2
        go_meet
        case rel => exact ⟨a, rfl, ha, hw0, h1, Lib.hid (fun h => absurd h hlt)⟩
  case rest =>
  obtain ⟨a, rfl, ha, hw0, h1, h2⟩ := hcut
  have hwz := hw0.size
  go_upto_block 2 with fail
  go_cut [4] from 5 (fun x4 w' => ∃ b : Nat, x4 = .int .i64 b ∧ a ≤ b ∧ b ≤ s.length ∧ Below w.heap.size w w' ∧ Hid (∀ (j : Nat) x, b ≤ j → s[j]? = some x → Gl.blanksS.contains x = true) ∧ Hid (a < b → ∀ x, s[b - 1]? = some x → Gl.blanksS.contains x = false))
  case first =>
    go_wp2
    go_loopw [4] (fun i wr => ∃ b : Nat, a ≤ b ∧ b ≤ s.length ∧ i = .int .i64 b ∧ Below w.heap.size w wr ∧ Hid (∀ (j : Nat) x, b ≤ j → s[j]? = some x → Gl.blanksS.contains x = true)) (fun i _ => (intOf i).toNat)
    case atStart => exact ⟨s.length, ha, Nat.le_refl _, by simp, hw0, Lib.hid (fun j x h hx => by rw [List.getElem?_eq_none h] at hx; cases hx)⟩
    case round =>
      obtain ⟨b, hab, hb1, rfl, hw1, h3⟩ := hrel
      have hwz1 := hw1.size
      by_cases hlt : a < b
      · have hbl1 : b - 1 < s.length := by omega
        have hq := fun W => hbl.out s[b - 1] W
        have hi1 : IntKind.i64.wrap ((b : Int) - 1) = ((b - 1 : Nat) : Int) := by rw [IntWalk.i64_in _ (by omega)]; omega
        cases hc : Gl.blanksS.contains s[b - 1]
        · rw [hc] at hq
          have h4 : Hid (a < b → ∀ x, s[b - 1]? = some x → Gl.blanksS.contains x = false) := Lib.hid (fun _ x hx => by
            rw [List.getElem?_eq_getElem hbl1] at hx
            injection hx with hx
            rw [← hx]
            exact hc)
          replace hc := Lib.hid hc
          replace hq := Lib.hid hq
          go_wp2_with (go_at_call 142; refine (hq.out _).mono ?_; rintro e w1 ⟨rfl, hb⟩; obtain ⟨hc, hfz⟩ := bcell hb; have hz := hb.size; (try simp at hz); (try have hz0 := lt_ hb w.heap.size); (try have hz1 := lt_ hb (w.heap.size + 1)); (try have hz2 := lt_ hb (w.heap.size + 2)); (try have hz3 := lt_ hb (w.heap.size + 3)); (try have hcA := fun o => hc w.heap.size o sz_); (try have hcB := fun o => hc (w.heap.size + 1) o sz_))
          go_meet
          case rel => exact ⟨b, rfl, hab, hb1, bw_, h3, h4⟩
        · rw [hc] at hq
          have h5 : Hid (∀ (j : Nat) x, b - 1 ≤ j → s[j]? = some x → Gl.blanksS.contains x = true) := Lib.hid (fun j x hj hx => by
            by_cases hja : b ≤ j
            · exact h3.out j x hja hx
            · have e : j = b - 1 := by omega
              subst e
              rw [List.getElem?_eq_getElem hbl1] at hx
              injection hx with hx
              rw [← hx]
              exact hc)
          replace hc := Lib.hid hc
          replace hq := Lib.hid hq
          go_wp2_with (go_at_call 142; refine (hq.out _).mono ?_; rintro e w1 ⟨rfl, hb⟩; obtain ⟨hc, hfz⟩ := bcell hb; have hz := hb.size; (try simp at hz); (try have hz0 := lt_ hb w.heap.size); (try have hz1 := lt_ hb (w.heap.size + 1)); (try have hz2 := lt_ hb (w.heap.size + 2)); (try have hz3 := lt_ hb (w.heap.size + 3)); (try have hcA := fun o => hc w.heap.size o sz_); (try have hcB := fun o => hc (w.heap.size + 1) o sz_))
          go_roundw
          case rel => exact ⟨b - 1, by omega, by omega, by go_num, bw_, h5⟩
          case measure => simp [intOf]; omega
      · go_wp2
        go_meet
        case rel => exact ⟨b, rfl, hab, hb1, hw1, h3, Lib.hid (fun h => absurd h hlt)⟩
  case rest =>
  obtain ⟨b, rfl, hab, hb1, hw1, h3, h4⟩ := hcut
  have e := trimH_cut s a b hab hb1 h1.out h2.out h3.out h4.out
  rw [hR.out] at e
  replace e := Lib.hid e
  clear h1 h2 h3 h4 hw0 hwz
  have hi2 : (0 : Int) ≤ (a : Int) ∧ (a : Int) ≤ (b : Int) ∧ (b : Int) ≤ (s.length : Int) := ⟨by omega, by omega, by omega⟩
  go_wp2
  go_ret
  refine ⟨?_, hw1⟩
  rw [e.out]
  show Ending.returned (Value.string _) = Ending.returned _
  rw [List.drop_take]
end Go.Proofs.YtbafofldgkigmaaGreatDoor
