/- The smaller functions of package host. -/
import Derived.Test.YthmgcnaoionmoaaDoorRef2
import Derived.Test.YthmgcnaoionmoaaDoorCut
namespace Go.Proofs.YthmgcnaoionmoaaDoor
open Go.RowKit

theorem host_digit (c : UInt8) (w : World) :
    Calls Tryd.prog 100 #[.int .u8 c.toNat] w (Same w (.bool (Gl.isDigit c))) := by
  go_enter Tryd.func100, Tryd.ntmps100
  go_wp2
  all_goals
    go_ret
    exact ret_bool (by simp [Gl.isDigit]; omega)
theorem host_digit_at (c : UInt8) (w : World) {b : Bool} (h : Gl.isDigit c = b) :
    Calls Tryd.prog 100 #[.int .u8 c.toNat] w (Same w (.bool b)) := h ▸ host_digit c w

theorem host_small (c : UInt8) (w : World) :
    Calls Tryd.prog 99 #[.int .u8 c.toNat] w (Same w (.bool (Gl.isSmall c))) := by
  cases hd : Gl.isDigit c with
  | true =>
    have hd1 : 48 ≤ (c.toNat : Int) := by simp [Gl.isDigit] at hd; omega
    have hd2 : (c.toNat : Int) ≤ 57 := by simp [Gl.isDigit] at hd; omega
    replace hd := Lib.hid hd
    go_enter Tryd.func99, Tryd.ntmps99
    go_wp2_with (go_at_call 100; refine ( host_digit_at _ _ hd.out).mono ?_; rintro e w1 ⟨rfl, rfl⟩)
    all_goals
      go_ret
      exact ret_bool (by simp [Gl.isSmall]; omega)
  | false =>
    have hd1 : Hid ((c.toNat : Int) < 48 ∨ 57 < (c.toNat : Int)) := Lib.hid (by simp [Gl.isDigit] at hd; omega)
    replace hd := Lib.hid hd
    go_enter Tryd.func99, Tryd.ntmps99
    go_wp2_with (go_at_call 100; refine ( host_digit_at _ _ hd.out).mono ?_; rintro e w1 ⟨rfl, rfl⟩)
    all_goals
      go_ret
      exact ret_bool (by have := hd1.out; simp [Gl.isSmall] at *; omega)

/-- 'fits' at a test that is a function of the package's own. -/
theorem host_fits_small (s : List UInt8) (w : World) (hs : s.length ≤ 281474976710656) :
    Calls Tryd.prog 98 #[(Value.string ⟨(s).toArray⟩), .func (.func 99) #[] #[]] w (Same w (.bool (s.all Gl.isSmall))) := by
  generalize hR : s.all Gl.isSmall = R
  replace hR := Lib.hid hR
  go_enter Tryd.func98, Tryd.ntmps98
  go_wp2
  go_loop [5, 8] (fun _ i => ∃ k : Nat, k ≤ s.length ∧ i = .int .i64 k ∧ Hid ((s.drop k).all Gl.isSmall = R)) (fun _ i => s.length - (intOf i).toNat)
  case atStart => exact ⟨0, Nat.zero_le _, rfl, hR⟩
  case round =>
    obtain ⟨k, hk, rfl, hr⟩ := hrel
    by_cases hlt : k < s.length
    · rw [drop_cons hlt] at hr
      cases hb : Gl.isSmall s[k] with
      | true =>
        have hf : Hid ((s.drop (k + 1)).all Gl.isSmall = R) := Lib.hid (by rw [← hr.out, List.all_cons, hb, Bool.true_and])
        have hc : Hid (∀ w, Calls Tryd.prog 99 #[.int .u8 (s[k].toNat : Int)] w (Same w (.bool true))) := Lib.hid (fun w => hb ▸ host_small s[k] w)
        go_wp2_with (go_at_call 99; refine ( hc.out _).mono ?_; rintro e w1 ⟨rfl, rfl⟩)
        go_round
        case rel => exact ⟨k + 1, by omega, by go_num, hf⟩
        case measure => simp [intOf]; omega
      | false =>
        have hf : Hid (R = false) := Lib.hid (by rw [← hr.out, List.all_cons, hb, Bool.false_and])
        have hc : Hid (∀ w, Calls Tryd.prog 99 #[.int .u8 (s[k].toNat : Int)] w (Same w (.bool false))) := Lib.hid (fun w => hb ▸ host_small s[k] w)
        go_wp2_with (go_at_call 99; refine ( hc.out _).mono ?_; rintro e w1 ⟨rfl, rfl⟩)
        go_ret
        exact ret_bool (by rw [hf.out])
    · rw [List.drop_eq_nil_of_le (by omega)] at hr
      go_wp2
      go_ret
      exact ret_bool (by rw [← hr.out]; simp)
set_option maxHeartbeats 400000 in
theorem host_fits_digit (s : List UInt8) (w : World) (hs : s.length ≤ 281474976710656) :
    Calls Tryd.prog 98 #[(Value.string ⟨(s).toArray⟩), .func (.func 100) #[] #[]] w (Same w (.bool (s.all Gl.isDigit))) := by
  generalize hR : s.all Gl.isDigit = R
  replace hR := Lib.hid hR
  go_enter Tryd.func98, Tryd.ntmps98
  go_wp2
  go_loop [5, 8] (fun _ i => ∃ k : Nat, k ≤ s.length ∧ i = .int .i64 k ∧ Hid ((s.drop k).all Gl.isDigit = R)) (fun _ i => s.length - (intOf i).toNat)
  case atStart => exact ⟨0, Nat.zero_le _, rfl, hR⟩
  case round =>
    obtain ⟨k, hk, rfl, hr⟩ := hrel
    by_cases hlt : k < s.length
    · rw [drop_cons hlt] at hr
      cases hb : Gl.isDigit s[k] with
      | true =>
        have hf : Hid ((s.drop (k + 1)).all Gl.isDigit = R) := Lib.hid (by rw [← hr.out, List.all_cons, hb, Bool.true_and])
        have hc : Hid (∀ w, Calls Tryd.prog 100 #[.int .u8 (s[k].toNat : Int)] w (Same w (.bool true))) := Lib.hid (fun w => hb ▸ host_digit s[k] w)
        go_wp2_with (go_at_call 100; refine ( hc.out _).mono ?_; rintro e w1 ⟨rfl, rfl⟩)
        go_round
        case rel => exact ⟨k + 1, by omega, by go_num, hf⟩
        case measure => simp [intOf]; omega
      | false =>
        have hf : Hid (R = false) := Lib.hid (by rw [← hr.out, List.all_cons, hb, Bool.false_and])
        have hc : Hid (∀ w, Calls Tryd.prog 100 #[.int .u8 (s[k].toNat : Int)] w (Same w (.bool false))) := Lib.hid (fun w => hb ▸ host_digit s[k] w)
        go_wp2_with (go_at_call 100; refine ( hc.out _).mono ?_; rintro e w1 ⟨rfl, rfl⟩)
        go_ret
        exact ret_bool (by rw [hf.out])
    · rw [List.drop_eq_nil_of_le (by omega)] at hr
      go_wp2
      go_ret
      exact ret_bool (by rw [← hr.out]; simp)

end Go.Proofs.YthmgcnaoionmoaaDoor
