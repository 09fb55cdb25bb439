/- octet.Number: the number that digits are. -/
import Derived.Test.YthmgcnaoionmoaaDoorRef1
namespace Go.Proofs.YthmgcnaoionmoaaDoor
open Go.RowKit

set_option maxHeartbeats 1000000 in
theorem octet_number (s : List UInt8) (most : Int) (w : World) (hs : s.length ≤ 281474976710656) (h0 : 0 ≤ most) (h1 : most ≤ 4294967296) :
    Calls Tryd.prog 76 #[(Value.string ⟨(s).toArray⟩), .int .i64 most] w
      (Same w (.tuple #[.int .i64 ((Gl.number s most).getD 0), .bool (Gl.number s most).isSome])) := by
  generalize hR : Gl.number s most = R
  replace hR := Lib.hid hR
  rcases Nat.eq_zero_or_pos s.length with hz | hz
  · obtain rfl := List.length_eq_zero_iff.1 hz
    go_enter Tryd.func76, Tryd.ntmps76
    go_wp2
    go_ret2
    exact ret_num (b := false) hR.out.symm (fun _ => rfl)
  · have he : s.isEmpty = false := by cases s <;> simp_all
    have hm : decide (most < 0) = false := by simp; omega
    replace hR := Lib.hid (hR.out.symm.trans (number_eq most hz))
    have hz1 : s = [48] ↔ s[0] = 48 ∧ s.length = 1 := by
      constructor
      · rintro rfl; exact ⟨rfl, rfl⟩
      · intro ⟨h1, h2⟩
        match s, h2 with
        | [a], _ => simpa using h1
    by_cases hc : s[0] = 48 ∧ 1 < s.length
    · obtain ⟨hc0, hc1⟩ := hc
      replace hR : Hid (R = none) := Lib.hid (by rw [hR.out, if_pos ⟨hc0, hc1⟩])
      have hb : ((s[0].toNat : Int) == 48) = true := by rw [hc0]; rfl
      have hb1 : (s == [48]) = false := by rw [beq_eq_false_iff_ne]; intro h; have := hz1.1 h; omega
      clear hc0 hz1
      go_enter Tryd.func76, Tryd.ntmps76
      go_wp2
      go_ret2
      exact ret_num (b := false) hR.out (fun _ => rfl)
    · replace hR : Hid (R = Gl.numGo most 0 s) := Lib.hid (by rw [hR.out, if_neg hc])
      have hcc : (s == [48]) = true ∨ (s == [48]) = false ∧ ((s[0].toNat : Int) == 48) = false := by
        by_cases hx : s = [48]
        · left; simpa using hx
        · right
          refine ⟨by simpa using hx, ?_⟩
          rw [beq_eq_false_iff_ne]; intro h
          have h48 : s[0] = 48 := by apply UInt8.toNat_inj.1; exact Int.ofNat_inj.1 h
          refine hx (hz1.2 ⟨h48, ?_⟩)
          have : ¬ 1 < s.length := fun h => hc ⟨h48, h⟩
          omega
      clear hc hz1
      rcases hcc with hb | ⟨hb, hb1⟩
      all_goals
        go_enter Tryd.func76, Tryd.ntmps76
        go_wp2
        go_loop [6, 26] (fun n i => ∃ (k : Nat) (m : Int), k ≤ s.length ∧ i = .int .i64 k ∧ n = .int .i64 m ∧ 0 ≤ m ∧ m ≤ most ∧ Hid (R = Gl.numGo most m (s.drop k))) (fun _ i => s.length - (intOf i).toNat)
        case atStart => exact ⟨0, 0, Nat.zero_le _, rfl, rfl, Int.le_refl _, h0, hR⟩
        case round =>
          obtain ⟨k, m, hk, rfl, rfl, hm0, hm1, hr⟩ := hrel
          by_cases hlt : k < s.length
          · rw [drop_cons hlt] at hr
            have hc256 := (s[k]).toNat_lt
            by_cases hd : (s[k].toNat : Int) < 48 ∨ 57 < (s[k].toNat : Int)
            · replace hr : Hid (R = none) := Lib.hid (by rw [hr.out, Gl.numGo, if_pos hd])
              rcases hd with hd | hd
              all_goals
                go_wp2
                go_ret2
                exact ret_num (b := false) hr.out (fun _ => rfl)
            · have hd1 : 48 ≤ (s[k].toNat : Int) := by omega
              have hd2 : (s[k].toNat : Int) ≤ 57 := by omega
              replace hr := Lib.hid (hr.out.trans (by rw [Gl.numGo, if_neg hd]))
              clear hd
              by_cases hq : most < (s[k].toNat : Int) - 48
              · replace hr : Hid (R = none) := Lib.hid (by rw [hr.out, if_pos (Or.inl hq)])
                go_wp2
                go_ret2
                exact ret_num (b := false) hr.out (fun _ => rfl)
              · have hq1 : (s[k].toNat : Int) - 48 ≤ most := by omega
                have hq3 : Hid ((most - ((s[k].toNat : Int) - 48)).tdiv 10 = (most - ((s[k].toNat : Int) - 48)) / 10) := Lib.hid (Int.tdiv_eq_ediv_of_nonneg (by omega))
                by_cases hq2 : (most - ((s[k].toNat : Int) - 48)) / 10 < m
                · replace hr : Hid (R = none) := Lib.hid (by rw [hr.out, if_pos (Or.inr hq2)])
                  clear hq
                  go_wp2
                  all_goals first
                    | (go_ret2; exact ret_num (b := false) hr.out (fun _ => rfl))
                    | (exfalso; have := hq3.out; omega)
                · replace hr := Lib.hid (hr.out.trans (if_neg (by omega)))
                  have hq4 : m ≤ (most - ((s[k].toNat : Int) - 48)) / 10 := by omega
                  clear hq hq2
                  go_wp2
                  all_goals first
                    | (go_round
                       case rel => exact ⟨k + 1, 10 * m + ((s[k].toNat : Int) - 48), by omega, by go_num, rfl, by omega, by omega, hr⟩
                       case measure => simp [intOf]; omega)
                    | (exfalso; have := hq3.out; omega)
          · replace hr : Hid (R = some m) := Lib.hid (by rw [hr.out, List.drop_eq_nil_of_le (by omega)]; rfl)
            go_wp2
            go_ret2
            exact ret_num (b := true) hr.out (fun h => by cases h)

theorem octet_number_none (s : List UInt8) (most : Int) (w : World) (hs : s.length ≤ 281474976710656) (h0 : 0 ≤ most) (h1 : most ≤ 4294967296) (h : Gl.number s most = none) :
    Calls Tryd.prog 76 #[.string ⟨s.toArray⟩, .int .i64 most] w (Same w (.tuple #[.int .i64 0, .bool false])) := by
  have := octet_number s most w hs h0 h1; rw [h] at this; exact this
theorem octet_number_some (s : List UInt8) (most n : Int) (w : World) (hs : s.length ≤ 281474976710656) (h0 : 0 ≤ most) (h1 : most ≤ 4294967296) (h : Gl.number s most = some n) :
    Calls Tryd.prog 76 #[.string ⟨s.toArray⟩, .int .i64 most] w (Same w (.tuple #[.int .i64 n, .bool true])) := by
  have := octet_number s most w hs h0 h1; rw [h] at this; exact this
end Go.Proofs.YthmgcnaoionmoaaDoor
