/- Lower, of the program and of the reference: A to Z are made small. -/
import Derived.Test.YthmgcnaoionmoaaDoorBase
import Derived.Test.YthmgcnaoionmoaaDoorSpec
namespace Go.Proofs.YthmgcnaoionmoaaDoor
open Go.RowKit

/-- The first k bytes are small already. -/
def mix (s : List UInt8) (k : Nat) : List UInt8 := (s.take k).map Gl.low ++ s.drop k
theorem mix_length (s : List UInt8) (k : Nat) : (mix s k).length = s.length := by simp [mix]; omega
theorem mix_get (s : List UInt8) (k : Nat) (h : k < s.length) : (mix s k)[k]'(by rw [mix_length]; exact h) = s[k] := by
  simp only [mix]
  rw [List.getElem_append_right (by simp; omega)]
  simp [Nat.min_eq_left (Nat.le_of_lt h)]
theorem mix_set (s : List UInt8) (k : Nat) (h : k < s.length) : (mix s k).set k (Gl.low s[k]) = mix s (k + 1) := by
  simp only [mix]
  rw [List.set_append_right _ _ (by simp; omega), drop_cons h]
  have e : k - ((s.take k).map Gl.low).length = 0 := by simp; omega
  rw [e, List.set_cons_zero, List.take_succ_eq_append_getElem h, List.map_append, List.append_assoc]
  rfl
theorem mix_keep (s : List UInt8) (k : Nat) (h : k < s.length) (hl : Gl.low s[k] = s[k]) : mix s (k + 1) = mix s k := by
  rw [← mix_set s k h, hl]
  conv => lhs; arg 3; rw [← mix_get s k h]
  exact List.set_getElem_self _
theorem mix_zero (s : List UInt8) : mix s 0 = s := by simp [mix]
theorem mix_all (s : List UInt8) (k : Nat) (h : s.length ≤ k) : mix s k = Gl.lower s := by
  simp [mix, Gl.lower, List.take_of_length_le h, List.drop_eq_nil_of_le h]

theorem buf_new {w : World} {e : TypeId} (s : List UInt8) : Buf (Lib.bytesWorld w e ⟨s.toArray⟩) w.heap.size s := by
  refine ⟨fun k hk => ?_, fun k hk => ?_⟩
  · rw [Lib.bytesWorld_cell _ _ _ _ hk]
    simp [List.getD, hk]
  · unfold World.frozen?
    rw [Lib.bytesWorld_at_new]
    simp [Lib.bytesCells]
    omega
theorem below_bytes (w : World) (e : TypeId) (s : ByteArray) : Below w.heap.size w (Lib.bytesWorld w e s) :=
  ⟨rfl, rfl, rfl, by rw [Lib.bytesWorld_size]; omega, fun j hj => Lib.bytesWorld_at_old w e s j hj⟩

set_option maxHeartbeats 1000000 in
theorem ref1_lower (s : List UInt8) (w : World) (hs : s.length ≤ 281474976710656) :
    Calls Tryd.prog 55 #[.string ⟨s.toArray⟩] w (Ret w (.string ⟨(Gl.lower s).toArray⟩)) := by
  have hconv := fun (w : World) => Lib.run_convert_string_bytes (P := Tryd.prog) w 9 96 5 ⟨s.toArray⟩ Tryd.underlying9 Tryd.underlying96 Tryd.underlying5
  generalize hR : Gl.lower s = R
  replace hR := Lib.hid hR
  go_enter Tryd.func55, Tryd.ntmps55
  go_wp2
  go_loopw [4] (fun i wr => ∃ k : Nat, k ≤ s.length ∧ i = .int .i64 k ∧ Buf wr w.heap.size (mix s k) ∧ Below w.heap.size w wr) (fun i _ => s.length - (intOf i).toNat)
  case atStart => exact ⟨0, Nat.zero_le _, rfl, mix_zero s ▸ buf_new s, below_bytes _ _ _⟩
  case round =>
    obtain ⟨k, hk, rfl, hb, hw⟩ := hrel
    by_cases hlt : k < s.length
    · have hc : wr.cell? ⟨w.heap.size, k, none⟩ = some (.int .u8 (s[k].toNat : Int)) := by
        rw [hb.cell k (by rw [mix_length]; exact hlt), mix_get s k hlt]
      have hf := hb.free k (by rw [mix_length]; exact hlt)
      have hc1 := (s[k]).toNat_lt
      by_cases hu : 65 ≤ s[k].toNat ∧ s[k].toNat ≤ 90
      · obtain ⟨hu1, hu2⟩ := hu
        have hb' : Buf (wr.setCell ⟨w.heap.size, k, none⟩ (.int .u8 ((s[k].toNat : Int) + 32))) w.heap.size (mix s (k + 1)) := by
          have := hb.set k (by rw [mix_length]; exact hlt) (Gl.low s[k])
          rw [mix_set s k hlt] at this
          have e : ((Gl.low s[k]).toNat : Int) = (s[k].toNat : Int) + 32 := by
            simp [Gl.low, hu1, hu2, UInt8.toNat_add]; omega
          rw [e] at this
          exact this
        have hw' := hw.setCell (p := ⟨w.heap.size, k, none⟩) (Nat.le_refl _) (.int .u8 ((s[k].toNat : Int) + 32))
        have hB := Lib.hid hb'
        clear hb' hb
        go_wp2
        go_roundw
        case rel => exact ⟨k + 1, by omega, by go_num, hB.out, hw'⟩
        case measure => simp [intOf]; omega
      · have hB : Hid (Buf wr w.heap.size (mix s (k + 1))) := Lib.hid (by rw [mix_keep s k hlt (by simp only [Gl.low]; rw [if_neg hu])]; exact hb)
        have hB0 := Lib.hid hb
        clear hb
        rcases (show s[k].toNat < 65 ∨ 90 < s[k].toNat from by omega) with h1 | h1
        all_goals
          clear hu
          go_wp2
          go_roundw
          case rel => exact ⟨k + 1, by omega, by go_num, hB.out, hw⟩
          case measure => simp [intOf]; omega
    · have hx : k = s.length := by omega
      have hback : ∀ cap, (convert 96 9 (.slice (some ⟨w.heap.size, 0, none⟩) s.length cap)).run Tryd.prog wr = .ok (.string ⟨R.toArray⟩) wr := fun cap => by
        rw [mix_all s k (by omega), hR.out] at hb
        have := hb.back 96 9 5 cap Tryd.underlying96 Tryd.underlying5 Tryd.underlying9
        rw [← hR.out, Gl.lower, List.length_map] at this
        rw [← hR.out]
        exact this
      clear hb hx
      go_wp2
      go_ret
      exact ⟨rfl, hw⟩

theorem or32 : ∀ c : UInt8, 65 ≤ c.toNat → c.toNat ≤ 90 → bits .or .u8 (c.toNat : Int) 32 = (c.toNat : Int) + 32 := by
  intro c h1 h2
  have h : ∀ i : Fin 26, bits .or .u8 ((i.val + 65 : Nat) : Int) 32 = ((i.val + 65 : Nat) : Int) + 32 := by decide +kernel
  have := h ⟨c.toNat - 65, by omega⟩
  rw [show c.toNat - 65 + 65 = c.toNat from by omega] at this
  exact this

set_option maxHeartbeats 1000000 in
theorem octet_lower (s : List UInt8) (w : World) (hs : s.length ≤ 281474976710656) :
    Calls Tryd.prog 47 #[.string ⟨s.toArray⟩] w (Ret w (.string ⟨(Gl.lower s).toArray⟩)) := by
  have hconv := fun (w : World) => Lib.run_convert_string_bytes (P := Tryd.prog) w 9 96 5 ⟨s.toArray⟩ Tryd.underlying9 Tryd.underlying96 Tryd.underlying5
  generalize hR : Gl.lower s = R
  replace hR := Lib.hid hR
  go_enter Tryd.func47, Tryd.ntmps47
  go_wp2
  go_loopw [4, 5, 10] (fun _ _ i wr => ∃ k : Nat, k ≤ s.length ∧ i = .int .i64 k ∧ Buf wr w.heap.size (mix s k) ∧ Below w.heap.size w wr) (fun _ _ i _ => s.length - (intOf i).toNat)
  case atStart => exact ⟨0, Nat.zero_le _, rfl, mix_zero s ▸ buf_new s, below_bytes _ _ _⟩
  case round =>
    obtain ⟨k, hk, rfl, hb, hw⟩ := hrel
    by_cases hlt : k < s.length
    · have hc : wr.cell? ⟨w.heap.size, k, none⟩ = some (.int .u8 (s[k].toNat : Int)) := by
        rw [hb.cell k (by rw [mix_length]; exact hlt), mix_get s k hlt]
      have hf := hb.free k (by rw [mix_length]; exact hlt)
      have hc1 := (s[k]).toNat_lt
      by_cases hu : 65 ≤ s[k].toNat ∧ s[k].toNat ≤ 90
      · obtain ⟨hu1, hu2⟩ := hu
        have hb' : Buf (wr.setCell ⟨w.heap.size, k, none⟩ (.int .u8 ((s[k].toNat : Int) + 32))) w.heap.size (mix s (k + 1)) := by
          have := hb.set k (by rw [mix_length]; exact hlt) (Gl.low s[k])
          rw [mix_set s k hlt] at this
          have e : ((Gl.low s[k]).toNat : Int) = (s[k].toNat : Int) + 32 := by
            simp [Gl.low, hu1, hu2, UInt8.toNat_add]; omega
          rw [e] at this
          exact this
        have hw' := hw.setCell (p := ⟨w.heap.size, k, none⟩) (Nat.le_refl _) (.int .u8 ((s[k].toNat : Int) + 32))
        have hB := Lib.hid hb'
        clear hb' hb
        have hor : bits .or .u8 (s[k].toNat : Int) 32 = (s[k].toNat : Int) + 32 := or32 _ hu1 hu2
        go_wp2
        go_roundw
        case rel => exact ⟨k + 1, by omega, by go_num, hB.out, hw'⟩
        case measure => simp [intOf]; omega
      · have hB : Hid (Buf wr w.heap.size (mix s (k + 1))) := Lib.hid (by rw [mix_keep s k hlt (by simp only [Gl.low]; rw [if_neg hu])]; exact hb)
        have hB0 := Lib.hid hb
        clear hb
        rcases (show s[k].toNat < 65 ∨ 90 < s[k].toNat from by omega) with h1 | h1
        all_goals
          clear hu
          go_wp2
          go_roundw
          case rel => exact ⟨k + 1, by omega, by go_num, hB.out, hw⟩
          case measure => simp [intOf]; omega
    · have hx : k = s.length := by omega
      have hback : ∀ cap, (convert 96 9 (.slice (some ⟨w.heap.size, 0, none⟩) s.length cap)).run Tryd.prog wr = .ok (.string ⟨R.toArray⟩) wr := fun cap => by
        rw [mix_all s k (by omega), hR.out] at hb
        have := hb.back 96 9 5 cap Tryd.underlying96 Tryd.underlying5 Tryd.underlying9
        rw [← hR.out, Gl.lower, List.length_map] at this
        rw [← hR.out]
        exact this
      clear hb hx
      go_wp2
      go_ret
      exact ⟨rfl, hw⟩

end Go.Proofs.YthmgcnaoionmoaaDoor
