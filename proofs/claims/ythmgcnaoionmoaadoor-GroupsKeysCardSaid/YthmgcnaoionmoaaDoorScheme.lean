/- urlp.scheme: may a text (without great letters) be a scheme? urlp.ports: the known schemes. -/
import Derived.Test.YthmgcnaoionmoaaDoorHostText
namespace Go.Proofs.YthmgcnaoionmoaaDoor
open Go.RowKit

theorem indexByte_no (l : List UInt8) (c : UInt8) (w : World) (h : l.contains c = false) :
    Calls Tryd.prog 73 #[(Value.string ⟨(l).toArray⟩), .int .u8 c.toNat] w (Same w (.int .i64 (-1))) := by
  have := indexByte_any l c w
  rw [(indexByte_neg l c).2 h] at this
  exact this
theorem indexByte_yes (l : List UInt8) (c : UInt8) (w : World) (h : l.contains c = true) :
    Calls Tryd.prog 73 #[(Value.string ⟨(l).toArray⟩), .int .u8 c.toNat] w (fun e w' => ∃ n : Nat, e = .returned (.int .i64 (n : Int)) ∧ w = w') := by
  have hge := Lib.indexByte_ge l c
  have hne : Lib.indexByte l c ≠ -1 := fun e => by rw [(indexByte_neg l c).1 e] at h; cases h
  obtain ⟨n, hn⟩ := Int.eq_ofNat_of_zero_le (show 0 ≤ Lib.indexByte l c by omega)
  exact (indexByte_any l c w).mono fun e w' ⟨he, hw⟩ => ⟨n, by rw [he, hn], hw⟩

def noGreat (s : List UInt8) : Prop := ∀ c ∈ s, ¬ (65 ≤ c.toNat ∧ c.toNat ≤ 90)
theorem lower_noGreat (s : List UInt8) : noGreat (Gl.lower s) := by
  intro c hc
  simp only [Gl.lower, List.mem_map] at hc
  obtain ⟨d, _, rfl⟩ := hc
  unfold Gl.low
  have := d.toNat_lt
  split
  · rename_i h
    rw [UInt8.toNat_add]
    have : (32 : UInt8).toNat = 32 := rfl
    omega
  · rename_i h; exact h

set_option maxHeartbeats 2000000 in
theorem urlp_scheme (s : List UInt8) (w : World) (hs : s.length ≤ 281474976710656) (hg : noGreat s) :
    Calls Tryd.prog 49 #[(Value.string ⟨(s).toArray⟩)] w (Same w (.bool (Gl.scheme s))) := by
  generalize hR : Gl.scheme s = R
  replace hR := Lib.hid hR
  replace hg := Lib.hid hg
  go_enter Tryd.func49, Tryd.ntmps49
  go_wp2
  go_loop [3, 4, 5, 8] (fun _ _ _ i => ∃ k : Nat, k ≤ s.length ∧ i = .int .i64 k ∧ Hid (R = (!s.isEmpty && Gl.schemeGo (k == 0) (s.drop k)))) (fun _ _ _ i => s.length - (intOf i).toNat)
  case atStart => exact ⟨0, Nat.zero_le _, rfl, Lib.hid (by rw [← hR.out]; rfl)⟩
  case round =>
    obtain ⟨k, hk, rfl, hr⟩ := hrel
    by_cases hlt : k < s.length
    · have he : s.isEmpty = false := by cases s <;> simp_all
      have hgk := hg.out s[k] (List.getElem_mem hlt)
      rw [drop_cons hlt, he, schemeGo_cons] at hr
      have hk0 : ((k : Int) == 0) = (k == 0) := by rw [Bool.eq_iff_iff]; simp
      have hkp : Hid ((k + 1 == 0) = false) := Lib.hid (by simp)
      have hc256 := (s[k]).toNat_lt
      replace he := Lib.hid he
      cases hz : (k == 0) <;> rw [hz] at hk0 hr <;> replace hz := Lib.hid hz
      all_goals
        by_cases hl : 97 ≤ (s[k].toNat : Int) ∧ (s[k].toNat : Int) ≤ 122
        · obtain ⟨hl1, hl2⟩ := hl
          have hlt' : Gl.isLetter s[k] = true := by simp [Gl.isLetter]; omega
          rw [hlt'] at hr
          clear hlt' hgk
          go_wp2
          go_round
          case rel => exact ⟨k + 1, by omega, by go_num, Lib.hid (by rw [hr.out, hkp.out, he.out]; rfl)⟩
          case measure => simp [intOf]; omega
        · have hlf : Gl.isLetter s[k] = false := by simp [Gl.isLetter]; omega
          rw [hlf] at hr
          rcases (show (48 ≤ (s[k].toNat : Int) ∧ (s[k].toNat : Int) ≤ 57) ∨ (s[k].toNat : Int) < 48 ∨ (57 < (s[k].toNat : Int) ∧ (s[k].toNat : Int) < 97) ∨ 122 < (s[k].toNat : Int) from by omega) with hd | hd | hd | hd
          all_goals
            clear hl hlf hgk
            first
              | (obtain ⟨hd1, hd2⟩ := hd
                 have hdig : Hid (Gl.isDigit s[k] = true) := Lib.hid (by simp [Gl.isDigit]; omega))
              | (obtain ⟨hd1, hd2⟩ := hd
                 have hdig : Hid (Gl.isDigit s[k] = false) := Lib.hid (by simp [Gl.isDigit]; omega))
              | (have hdig : Hid (Gl.isDigit s[k] = false) := Lib.hid (by simp [Gl.isDigit]; omega))
            cases ho : ([43, 45, 46] : List UInt8).contains s[k]
            all_goals
              rw [ho] at hr
              replace ho := Lib.hid ho
              go_wp2_with (first
                | (go_at_call 73; refine (indexByte_no [43, 45, 46] s[k] _ ho.out).mono ?_; rintro e w' ⟨rfl, rfl⟩)
                | (go_at_call 73; refine (indexByte_yes [43, 45, 46] s[k] _ ho.out).mono ?_; rintro e w' ⟨n, rfl, rfl⟩))
              all_goals first
                | (exfalso; clear hr hR hg hkp hz ho hdig he; simp at *; omega)
                | (go_round
                   case rel => exact ⟨k + 1, by omega, by go_num, Lib.hid (by rw [hr.out, hdig.out, hkp.out, he.out]; rfl)⟩
                   case measure => simp [intOf]; omega)
                | (go_ret
                   exact ret_bool (by rw [hr.out, hdig.out]; simp))
    · by_cases he : s.isEmpty = true
      · obtain rfl : s = [] := by simpa using he
        go_wp2
        go_ret
        exact ret_bool (by rw [hr.out]; simp)
      · replace he : s.isEmpty = false := by simpa using he
        rw [List.drop_eq_nil_of_le (by omega), he] at hr
        go_wp2
        go_ret
        exact ret_bool (by rw [hr.out]; simp [Gl.schemeGo])

end Go.Proofs.YthmgcnaoionmoaaDoor
