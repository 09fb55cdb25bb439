/- The smaller functions of glacisref02 and glacisref03. -/
import Derived.Test.YthmgcnaoionmoaaDoorRef1
namespace Go.Proofs.YthmgcnaoionmoaaDoor
open Go.RowKit

theorem ref2_label (s : List UInt8) (w : World) (hs : s.length ≤ 281474976710656) :
    Calls Tryd.prog 103 #[.string ⟨s.toArray⟩] w (Same w (.bool (Gl.isLabel s))) := by
  generalize hR : Gl.isLabel s = R
  replace hR := Lib.hid hR
  by_cases hlen : 1 ≤ s.length ∧ s.length ≤ 63
  · have h0 : Hid ((s.drop 0).all Gl.isSmall = R) := Lib.hid (by rw [← hR.out]; simp [Gl.isLabel, hlen])
    obtain ⟨hl1, hl2⟩ := hlen
    go_enter Tryd.func103, Tryd.ntmps103
    go_wp2
    go_loop [3, 4] (fun i _ => ∃ k : Nat, k ≤ s.length ∧ i = .int .i64 k ∧ Hid ((s.drop k).all Gl.isSmall = R)) (fun i _ => s.length - (intOf i).toNat)
    case atStart => exact ⟨0, Nat.zero_le _, rfl, h0⟩
    case round =>
      obtain ⟨k, hk, rfl, hr⟩ := hrel
      by_cases hlt : k < s.length
      · rw [drop_cons hlt] at hr
        go_wp2
        all_goals first
          | (go_ret
             refine ret_bool ?_
             have : Gl.isSmall s[k] = false := by simp [Gl.isSmall]; simp at *; omega
             rw [← hr.out, List.all_cons, this, Bool.false_and])
          | (go_round
             case rel =>
               refine ⟨k + 1, by omega, by go_num, Lib.hid ?_⟩
               have : Gl.isSmall s[k] = true := by simp [Gl.isSmall]; simp at *; omega
               rw [← hr.out, List.all_cons, this, Bool.true_and]
             case measure => simp [intOf]; omega)
      · rw [List.drop_eq_nil_of_le (by omega)] at hr
        go_wp2
        go_ret
        exact ret_bool (by rw [← hr.out]; simp)
  · have hf : Hid (R = false) := Lib.hid (by rw [← hR.out]; simp [Gl.isLabel]; omega)
    rcases (show s.length < 1 ∨ 63 < s.length from by omega) with h | h
    all_goals
      go_enter Tryd.func103, Tryd.ntmps103
      go_wp2
      go_ret
      exact ret_bool (by rw [hf.out])

theorem ref2_digits (s : List UInt8) (w : World) (hs : s.length ≤ 281474976710656) :
    Calls Tryd.prog 104 #[.string ⟨s.toArray⟩] w (Same w (.bool (s.all Gl.isDigit))) := by
  generalize hR : s.all Gl.isDigit = R
  replace hR := Lib.hid hR
  go_enter Tryd.func104, Tryd.ntmps104
  go_wp2
  go_loop [3] (fun i => ∃ k : Nat, k ≤ s.length ∧ i = .int .i64 k ∧ Hid ((s.drop k).all Gl.isDigit = R)) (fun i => s.length - (intOf i).toNat)
  case atStart => exact ⟨0, Nat.zero_le _, rfl, hR⟩
  case round =>
    obtain ⟨k, hk, rfl, hr⟩ := hrel
    by_cases hlt : k < s.length
    · rw [drop_cons hlt] at hr
      go_wp2
      all_goals first
        | (go_ret
           refine ret_bool ?_
           have : Gl.isDigit s[k] = false := by simp [Gl.isDigit]; simp at *; omega
           rw [← hr.out, List.all_cons, this, Bool.false_and])
        | (go_round
           case rel =>
             refine ⟨k + 1, by omega, by go_num, Lib.hid ?_⟩
             have : Gl.isDigit s[k] = true := by simp [Gl.isDigit]; simp at *; omega
             rw [← hr.out, List.all_cons, this, Bool.true_and]
           case measure => simp [intOf]; omega)
    · rw [List.drop_eq_nil_of_le (by omega)] at hr
      go_wp2
      go_ret
      exact ret_bool (by rw [← hr.out]; simp)

theorem span_go (of s : List UInt8) (k : Nat) (h : (s.take k).all (fun c => !of.contains c) = true) (hk : k < s.length) (hc : of.contains s[k] = true) : Gl.span of s = (s.take k, s.drop k) := by
  have e : s = s.take k ++ s[k] :: s.drop (k + 1) := by rw [← drop_cons hk, List.take_append_drop]
  have h' : ∀ a ∈ s.take k, (fun c => !of.contains c) a = true := List.all_eq_true.1 h
  rw [Gl.span]
  conv => lhs; rw [e]
  rw [List.takeWhile_append_of_pos h', List.dropWhile_append_of_pos h', List.takeWhile_cons_of_neg (by simp at *; exact hc), List.dropWhile_cons_of_neg (by simp at *; exact hc), ← drop_cons hk]
  simp
theorem span_all (of s : List UInt8) (h : s.all (fun c => !of.contains c) = true) : Gl.span of s = (s, []) := by
  have h' : ∀ a ∈ s, (fun c => !of.contains c) a = true := List.all_eq_true.1 h
  have e1 := List.takeWhile_append_of_pos (l₂ := []) h'
  have e2 := List.dropWhile_append_of_pos (l₂ := []) h'
  simp only [List.append_nil, List.takeWhile_nil, List.dropWhile_nil] at e1 e2
  rw [Gl.span, e1, e2]

theorem ref1_in_at (c : UInt8) (s : List UInt8) (w : World) (hs : s.length ≤ 281474976710656) {b : Bool} (h : s.contains c = b) :
    Calls Tryd.prog 79 #[.int .u8 c.toNat, .string ⟨s.toArray⟩] w (Same w (.bool b)) := h ▸ ref1_in c s w hs

end Go.Proofs.YthmgcnaoionmoaaDoor
