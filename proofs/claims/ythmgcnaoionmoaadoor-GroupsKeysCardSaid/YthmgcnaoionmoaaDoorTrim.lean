/- The bytes up to 32 at a text's ends are taken off. -/
import Derived.Test.YthmgcnaoionmoaaDoorRef3b
import Derived.Deep.DeepCutAuto
import Derived.Deep.CutBlock
namespace Go.Proofs.YthmgcnaoionmoaaDoor
open Go.RowKit

theorem trimL_cons {t : List UInt8} (h : 0 < t.length) (hb : t[0].toNat ≤ 32) : Gl.trimL t = Gl.trimL t.tail := by
  cases t with
  | nil => simp at h
  | cons x r =>
    simp only [Gl.trimL]
    rw [List.dropWhile_cons_of_pos (by simpa [Gl.blank] using hb)]
    rfl
theorem trimL_stop {t : List UInt8} (h : 0 < t.length) (hb : 32 < t[0].toNat) : Gl.trimL t = t := by
  cases t with
  | nil => simp at h
  | cons x r =>
    simp only [Gl.trimL]
    rw [List.dropWhile_cons_of_neg (by simpa [Gl.blank] using hb)]
theorem trimR_snoc {t : List UInt8} (h : 0 < t.length) (hb : t[t.length - 1].toNat ≤ 32) : Gl.trimR t = Gl.trimR (t.take (t.length - 1)) := by
  have e : t = t.take (t.length - 1) ++ [t[t.length - 1]] := by
    rw [← List.take_succ_eq_append_getElem (by omega), List.take_of_length_le (by omega)]
  conv => lhs; rw [e]
  simp only [Gl.trimR, List.reverse_append, List.reverse_cons, List.reverse_nil, List.nil_append, List.cons_append]
  rw [List.dropWhile_cons_of_pos (by simpa [Gl.blank] using hb)]
theorem trimR_stop {t : List UInt8} (h : 0 < t.length) (hb : 32 < t[t.length - 1].toNat) : Gl.trimR t = t := by
  have e : t = t.take (t.length - 1) ++ [t[t.length - 1]] := by
    rw [← List.take_succ_eq_append_getElem (by omega), List.take_of_length_le (by omega)]
  conv => lhs; rw [e]
  simp only [Gl.trimR, List.reverse_append, List.reverse_cons, List.reverse_nil, List.nil_append, List.cons_append]
  rw [List.dropWhile_cons_of_neg (by simpa [Gl.blank] using hb)]
  rw [List.reverse_cons, List.reverse_reverse, ← e]

def sizeOfV : Value → Nat | .string t => t.size | _ => 0

theorem ref3_trim (s : List UInt8) (w : World) (hs : s.length ≤ 281474976710656) :
    Calls Tryd.prog 52 #[(Value.string ⟨(s).toArray⟩)] w (Same w ((Value.string ⟨(Gl.trim s).toArray⟩))) := by
  generalize hR : Gl.trim s = R
  replace hR := Lib.hid hR
  go_enter Tryd.func52, Tryd.ntmps52
  go_upto_block 0 with (fail)
  go_cut [0] (fun v w' => w' = w ∧ ∃ t : List UInt8, t.length ≤ 281474976710656 ∧ v = .string ⟨t.toArray⟩ ∧ Hid (Gl.trimR t = R))
  case first =>
    go_wp2
    go_loop [0] (fun v => ∃ t : List UInt8, t.length ≤ 281474976710656 ∧ v = .string ⟨t.toArray⟩ ∧ Hid (Gl.trimR (Gl.trimL t) = R)) (fun v => sizeOfV v)
    case atStart => exact ⟨s, hs, rfl, hR⟩
    case round =>
      obtain ⟨t, ht, rfl, hr⟩ := hrel
      by_cases hlt : 0 < t.length
      · by_cases hb : t[0].toNat ≤ 32
        · have hf : Hid (Gl.trimR (Gl.trimL t.tail) = R) := Lib.hid (by rw [← trimL_cons hlt hb]; exact hr.out)
          go_wp2
          go_round
          case rel => exact ⟨t.tail, by simp; omega, rfl, hf⟩
          case measure => simp [sizeOfV, ByteArray.size]; omega
        · have hf : Hid (Gl.trimR t = R) := Lib.hid (by rw [trimL_stop hlt (by omega)] at hr; exact hr.out)
          go_wp2
          go_meet
          exact ⟨rfl, t, ht, rfl, hf⟩
      · obtain rfl : t = [] := List.eq_nil_of_length_eq_zero (by omega)
        go_wp2
        go_meet
        exact ⟨rfl, [], ht, rfl, hr⟩
  case rest =>
    obtain ⟨rfl, t, ht, rfl, hr⟩ := hcut
    go_wp2
    go_loop [0] (fun v => ∃ t : List UInt8, t.length ≤ 281474976710656 ∧ v = .string ⟨t.toArray⟩ ∧ Hid (Gl.trimR t = R)) (fun v => sizeOfV v)
    case atStart => exact ⟨t, ht, rfl, hr⟩
    case round =>
      clear hr ht
      obtain ⟨t, ht, rfl, hr⟩ := hrel
      by_cases hlt : 0 < t.length
      · have hi : t.length - 1 < t.length := by omega
        by_cases hb : t[t.length - 1].toNat ≤ 32
        · have hf : Hid (Gl.trimR (t.take (t.length - 1)) = R) := Lib.hid (by rw [← trimR_snoc hlt hb]; exact hr.out)
          go_wp2
          go_round
          case rel => exact ⟨_, by simp; omega, rfl, hf⟩
          case measure => simp [sizeOfV, ByteArray.size]; omega
        · have hf : Hid (R = t) := Lib.hid (by rw [trimR_stop hlt (by omega)] at hr; exact hr.out.symm)
          go_wp2
          go_ret
          exact ⟨by rw [hf.out]; rfl, rfl⟩
      · obtain rfl : t = [] := List.eq_nil_of_length_eq_zero (by omega)
        go_wp2
        go_ret
        exact ⟨by rw [← hr.out]; rfl, rfl⟩
end Go.Proofs.YthmgcnaoionmoaaDoor
