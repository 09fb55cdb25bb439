/- What the functions of glacisref01 compute: each call answers what the plain function of XSpec says. -/
import Derived.Test.YthmgcnaoionmoaaDoorBase
import Derived.Test.YthmgcnaoionmoaaDoorSpec
namespace Go.Proofs.YthmgcnaoionmoaaDoor
open Go.RowKit

theorem ret_bool {w : World} {a b : Bool} (h : a = true ↔ b = true) : Same w (.bool b) (.returned (.bool a)) w := ⟨by rw [Bool.eq_iff_iff.2 h], rfl⟩

theorem ref1_digit (c : UInt8) (w : World) :
    Calls Tryd.prog 81 #[.int .u8 c.toNat] w (Same w (.bool (Gl.isDigit c))) := by
  go_enter Tryd.func81, Tryd.ntmps81
  go_wp2
  all_goals
    go_ret
    exact ret_bool (by simp [Gl.isDigit]; omega)

theorem ref1_letter (c : UInt8) (w : World) :
    Calls Tryd.prog 80 #[.int .u8 c.toNat] w (Same w (.bool (Gl.isLetter c))) := by
  go_enter Tryd.func80, Tryd.ntmps80
  go_wp2
  all_goals
    go_ret
    exact ret_bool (by simp [Gl.isLetter]; omega)

theorem ref1_in (c : UInt8) (s : List UInt8) (w : World) (hs : s.length ≤ 281474976710656) :
    Calls Tryd.prog 79 #[.int .u8 c.toNat, .string ⟨s.toArray⟩] w (Same w (.bool (s.contains c))) := by
  generalize hR : s.contains c = R
  replace hR := Lib.hid hR
  go_enter Tryd.func79, Tryd.ntmps79
  go_wp2
  go_loop [5] (fun i => ∃ k : Nat, k ≤ s.length ∧ i = .int .i64 k ∧ Hid ((s.drop k).contains c = R)) (fun i => s.length - (intOf i).toNat)
  case atStart => exact ⟨0, Nat.zero_le _, rfl, hR⟩
  case round =>
    obtain ⟨k, hk, rfl, hr⟩ := hrel
    by_cases hlt : k < s.length
    · rw [drop_cons hlt] at hr
      by_cases hx : s[k] = c
      · have hf : Hid (R = true) := Lib.hid (by rw [← hr.out]; simp [hx])
        have hb : ((s[k].toNat : Int) == c.toNat) = true := by rw [hx]; simp
        clear hx
        go_wp2
        go_ret
        exact ret_bool (by rw [hf.out])
      · have hf : Hid ((s.drop (k + 1)).contains c = R) := Lib.hid (by rw [← hr.out, List.contains_cons]; simp [Ne.symm hx])
        have hb : ((s[k].toNat : Int) == c.toNat) = false := by
          rw [beq_eq_false_iff_ne]; intro h; exact hx (UInt8.toNat_inj.1 (by omega))
        clear hx hr
        go_wp2
        go_round
        case rel => exact ⟨k + 1, by omega, by go_num, hf⟩
        case measure => simp [intOf]; omega
    · have hf : Hid (R = false) := Lib.hid (by rw [← hr.out, List.drop_eq_nil_of_le (by omega)]; rfl)
      go_wp2
      go_ret
      exact ret_bool (by rw [hf.out])

theorem ref1_digit_at (c : UInt8) (w : World) {b : Bool} (h : Gl.isDigit c = b) :
    Calls Tryd.prog 81 #[.int .u8 c.toNat] w (Same w (.bool b)) := h ▸ ref1_digit c w

theorem numGo_digit {most n : Int} {c : UInt8} {r : List UInt8} (h : Gl.isDigit c = true) :
    Gl.numGo most n (c :: r) = if most < (c.toNat : Int) - 48 ∨ (most - ((c.toNat : Int) - 48)) / 10 < n then none else Gl.numGo most (10 * n + ((c.toNat : Int) - 48)) r := by
  conv => lhs; unfold Gl.numGo
  rw [if_neg]
  simp [Gl.isDigit] at h
  omega
theorem numGo_no {most n : Int} {c : UInt8} {r : List UInt8} (h : Gl.isDigit c = false) : Gl.numGo most n (c :: r) = none := by
  unfold Gl.numGo
  rw [if_pos]
  simp [Gl.isDigit] at h
  omega
theorem number_eq {s : List UInt8} (most : Int) (hz : 0 < s.length) : Gl.number s most = if s[0] = 48 ∧ 1 < s.length then none else Gl.numGo most 0 s := by
  unfold Gl.number
  have : s ≠ [] := by rintro rfl; simp at hz
  rw [List.head?_eq_getElem?, List.getElem?_eq_getElem hz]
  simp [this]


theorem ret_num {w : World} {R : Option Int} {a : Int} {b : Bool} (h : R = if b then some a else none) (ha : b = false → a = 0) :
    Same w (.tuple #[.int .i64 (R.getD 0), .bool R.isSome]) (.returned (.tuple #[.int .i64 a, .bool b])) w := by
  subst h
  cases b
  · rw [ha rfl]; exact ⟨rfl, rfl⟩
  · exact ⟨rfl, rfl⟩

set_option maxHeartbeats 1000000 in
theorem ref1_number (s : List UInt8) (most : Int) (w : World) (hs : s.length ≤ 281474976710656) (h0 : 0 ≤ most) (h1 : most ≤ 4294967296) :
    Calls Tryd.prog 83 #[.string ⟨s.toArray⟩, .int .i64 most] w
      (Same w (.tuple #[.int .i64 ((Gl.number s most).getD 0), .bool (Gl.number s most).isSome])) := by
  generalize hR : Gl.number s most = R
  replace hR := Lib.hid hR
  rcases Nat.eq_zero_or_pos s.length with hz | hz
  · obtain rfl := List.length_eq_zero_iff.1 hz
    go_enter Tryd.func83, Tryd.ntmps83
    go_wp2
    go_ret2
    exact ret_num (b := false) hR.out.symm (fun _ => rfl)
  · have he : s.isEmpty = false := by cases s <;> simp_all
    have hm : decide (most < 0) = false := by simp; omega
    replace hR := Lib.hid (hR.out.symm.trans (number_eq most hz))
    by_cases hc : s[0] = 48 ∧ 1 < s.length
    · obtain ⟨hc0, hc1⟩ := hc
      replace hR : Hid (R = none) := Lib.hid (by rw [hR.out, if_pos ⟨hc0, hc1⟩])
      have hb : ((s[0].toNat : Int) == 48) = true := by rw [hc0]; rfl
      have hb1 : decide (1 < (s.length : Int)) = true := by simp; omega
      clear hc0
      go_enter Tryd.func83, Tryd.ntmps83
      go_wp2
      go_ret2
      exact ret_num (b := false) hR.out (fun _ => rfl)
    · replace hR : Hid (R = Gl.numGo most 0 s) := Lib.hid (by rw [hR.out, if_neg hc])
      have hcc : ((s[0].toNat : Int) == 48) = false ∨ ((s[0].toNat : Int) == 48) = true ∧ decide (1 < (s.length : Int)) = false := by
        by_cases hx : s[0] = 48
        · right; rw [hx]; refine ⟨rfl, ?_⟩; simp; have : ¬ 1 < s.length := fun h => hc ⟨hx, h⟩; omega
        · left; rw [beq_eq_false_iff_ne]; intro h; apply hx; apply UInt8.toNat_inj.1; exact Int.ofNat_inj.1 h
      clear hc
      rcases hcc with hb | ⟨hb, hb1⟩
      all_goals
        go_enter Tryd.func83, Tryd.ntmps83
        go_wp2
        go_loop [6, 7] (fun n i => ∃ (k : Nat) (m : Int), k ≤ s.length ∧ i = .int .i64 k ∧ n = .int .i64 m ∧ 0 ≤ m ∧ m ≤ most ∧ Hid (R = Gl.numGo most m (s.drop k))) (fun _ i => s.length - (intOf i).toNat)
        case atStart => exact ⟨0, 0, Nat.zero_le _, rfl, rfl, Int.le_refl _, h0, hR⟩
        case round =>
          obtain ⟨k, m, hk, rfl, rfl, hm0, hm1, hr⟩ := hrel
          by_cases hlt : k < s.length
          · rw [drop_cons hlt] at hr
            cases hd : Gl.isDigit s[k] with
            | false =>
              replace hr := Lib.hid (hr.out.trans (numGo_no hd))
              have hd' := Lib.hid hd
              clear hd
              go_wp2_with (go_at_call 81; refine (ref1_digit_at _ _ hd'.out).mono ?_; rintro e w' ⟨rfl, rfl⟩)
              go_ret2
              exact ret_num (b := false) hr.out (fun _ => rfl)
            | true =>
              replace hr := Lib.hid (hr.out.trans (numGo_digit hd))
              have hd1 : 48 ≤ (s[k].toNat : Int) := by simp [Gl.isDigit] at hd; omega
              have hd2 : (s[k].toNat : Int) ≤ 57 := by simp [Gl.isDigit] at hd; omega
              have hd' := Lib.hid hd
              clear hd
              by_cases hq : most < (s[k].toNat : Int) - 48 ∨ (most - ((s[k].toNat : Int) - 48)) / 10 < m
              · replace hr : Hid (R = none) := Lib.hid (by rw [hr.out, if_pos hq])
                have hq' := Lib.hid hq
                have hq3 : Hid ((s[k].toNat : Int) - 48 ≤ most → (most - ((s[k].toNat : Int) - 48)).tdiv 10 = (most - ((s[k].toNat : Int) - 48)) / 10) := Lib.hid (fun h => Int.tdiv_eq_ediv_of_nonneg (by omega))
                clear hq
                go_wp2_with (go_at_call 81; refine (ref1_digit_at _ _ hd'.out).mono ?_; rintro e w' ⟨rfl, rfl⟩)
                all_goals first
                  | (go_ret2; exact ret_num (b := false) hr.out (fun _ => rfl))
                  | (exfalso; have := hq'.out; have := hq3.out (by omega); omega)
              · replace hr := Lib.hid (hr.out.trans (if_neg hq))
                have hq1 : (s[k].toNat : Int) - 48 ≤ most := by omega
                have hq2 : m ≤ (most - ((s[k].toNat : Int) - 48)) / 10 := by omega
                have hq3 : Hid ((most - ((s[k].toNat : Int) - 48)).tdiv 10 = (most - ((s[k].toNat : Int) - 48)) / 10) := Lib.hid (Int.tdiv_eq_ediv_of_nonneg (by omega))
                have hq4 : m ≤ (most - ((s[k].toNat : Int) - 48)).tdiv 10 := by rw [hq3.out]; exact hq2
                clear hq
                go_wp2_with (go_at_call 81; refine (ref1_digit_at _ _ hd'.out).mono ?_; rintro e w' ⟨rfl, rfl⟩)
                go_round
                case rel => exact ⟨k + 1, 10 * m + ((s[k].toNat : Int) - 48), by omega, by go_num, rfl, by omega, by omega, hr⟩
                case measure => simp [intOf]; omega
          · replace hr : Hid (R = some m) := Lib.hid (by rw [hr.out, List.drop_eq_nil_of_le (by omega)]; rfl)
            go_wp2
            go_ret2
            exact ret_num (b := true) hr.out (fun h => by cases h)

end Go.Proofs.YthmgcnaoionmoaaDoor
