/- Split of the reference and of the program: the parts of a text between a byte. -/
import Derived.Test.YthmgcnaoionmoaaDoorBase
import Derived.Test.YthmgcnaoionmoaaDoorSpec
namespace Go.Proofs.YthmgcnaoionmoaaDoor
open Go.RowKit

theorem splitGo_append (c : UInt8) (p q : List UInt8) (r : List UInt8) (h : c ∉ q) : Gl.splitGo c p (q ++ r) = Gl.splitGo c (p ++ q) r := by
  induction q generalizing p with
  | nil => simp
  | cons x q ih =>
    have hx : x ≠ c := fun e => h (by simp [e])
    simp only [List.cons_append, Gl.splitGo, if_neg hx]
    rw [ih _ (fun e => h (by simp [e]))]
    simp

set_option maxHeartbeats 1000000 in
theorem ref1_split (s : List UInt8) (c : UInt8) (w : World) (hs : s.length ≤ 1099511627774) :
    Calls Tryd.prog 91 #[.string ⟨s.toArray⟩, .int .u8 c.toNat] w (RetStrs w (Gl.split c s)) := by
  generalize hR : Gl.split c s = R
  replace hR := Lib.hid hR
  go_enter Tryd.func91, Tryd.ntmps91
  go_wp2
  go_loopw [5, 6, 7] (fun v f i wr => ∃ (k m : Nat) (L : List (List UInt8)), m ≤ k ∧ k ≤ s.length + 1 ∧ i = .int .i64 k ∧ f = .int .i64 m ∧ L.length ≤ m ∧
      Own wr w.heap.size v L ∧ Below w.heap.size w wr ∧ Hid (k ≤ s.length → L ++ Gl.splitGo c ((s.drop m).take (k - m)) (s.drop k) = R) ∧ Hid (s.length < k → L = R)) (fun _ _ i _ => s.length + 1 - (intOf i).toNat)
  case atStart => exact ⟨0, 0, [], Nat.le_refl _, Nat.zero_le _, rfl, rfl, Nat.le_refl _, Own.nil _ _, Below.refl _ _, Lib.hid (fun _ => by simpa [Gl.split] using hR.out), Lib.hid (fun h => by omega)⟩
  case round =>
    obtain ⟨k, m, L, hmk, hk, rfl, rfl, hLm, hown, hw, hr, hr2⟩ := hrel
    have hsz := hw.size
    by_cases hle : k ≤ s.length
    · replace hr := Lib.hid (hr.out hle)
      clear hr2
      by_cases hlt : k < s.length
      · rw [drop_cons hlt] at hr
        by_cases hx : s[k] = c
        · have hn : Hid ((L ++ [(s.drop m).take (k - m)]) ++ Gl.splitGo c [] (s.drop (k + 1)) = R) := Lib.hid (by rw [← hr.out, Gl.splitGo, if_pos hx]; simp)
          have hb : ((s[k].toNat : Int) == c.toNat) = true := by rw [hx]; simp
          have hkl : ((k : Int) == s.length) = false := by rw [beq_eq_false_iff_ne]; omega
          clear hx
          go_wp2_with (at_builtin; refine wpList_app rfl _ _ rfl _ L _ rfl (hown.alloc _) ((s.drop m).take (k - m)) wr.heap.size rfl ?_ (by omega) (by simp; omega) ?_)
          case refine_1 => go_simp
          rintro v' w' hown' hw'
          replace hw' := ((hw.alloc hsz _).trans hw')
          go_wp2
          go_roundw
          case rel => exact ⟨k + 1, k + 1, _, Nat.le_refl _, by omega, by go_num, by go_num, by simp; omega, hown', hw', Lib.hid (fun _ => by simpa using hn.out), Lib.hid (fun h => by omega)⟩
          case measure => simp [intOf]; omega
        · have hn : Hid (L ++ Gl.splitGo c ((s.drop m).take (k + 1 - m)) (s.drop (k + 1)) = R) := Lib.hid (by
            rw [← hr.out, Gl.splitGo, if_neg hx, show k + 1 - m = (k - m) + 1 from by omega, List.take_succ_eq_append_getElem (by simp; omega), List.getElem_drop]
            simp [show m + (k - m) = k from by omega])
          have hb : ((s[k].toNat : Int) == c.toNat) = false := by
            rw [beq_eq_false_iff_ne]; intro h; exact hx (UInt8.toNat_inj.1 (by omega))
          have hkl : ((k : Int) == s.length) = false := by rw [beq_eq_false_iff_ne]; omega
          clear hx hr
          go_wp2
          go_roundw
          case rel => exact ⟨k + 1, m, L, by omega, by omega, by go_num, rfl, hLm, hown, hw, Lib.hid (fun _ => hn.out), Lib.hid (fun h => by omega)⟩
          case measure => simp [intOf]; omega
      · obtain rfl : k = s.length := by omega
        have hn : Hid (L ++ [s.drop m] = R) := Lib.hid (by rw [← hr.out, List.drop_length, Gl.splitGo, List.take_of_length_le (by simp)])
        go_wp2_with (at_builtin; refine wpList_app rfl _ _ rfl _ L _ rfl (hown.alloc _) (s.drop m) wr.heap.size rfl ?_ (by omega) (by simp; omega) ?_)
        case refine_1 => go_simp
        rintro v' w' hown' hw'
        replace hw' := ((hw.alloc hsz _).trans hw')
        go_wp2
        go_roundw
        case rel => exact ⟨s.length + 1, s.length + 1, _, Nat.le_refl _, by omega, by go_num, by go_num, by simp; omega, hown', hw', Lib.hid (fun h => by omega), Lib.hid (fun _ => hn.out)⟩
        case measure => simp [intOf]
    · have hn := Lib.hid (hr2.out (by omega))
      have hst := hown
      clear hr hr2 hown
      go_wp2
      go_ret
      refine ⟨_, rfl, ?_, hw⟩
      rw [← hn.out]
      exact hst

end Go.Proofs.YthmgcnaoionmoaaDoor
