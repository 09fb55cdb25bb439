/- Rows of texts held against one another: slices.Equal, glacisref01.Texts. -/
import Derived.Test.YthmgcnaoionmoaaDoorRef2
namespace Go.Proofs.YthmgcnaoionmoaaDoor
open Go.RowKit
attribute [local irreducible] Calls
theorem Strs.cells {w : World} {B : Nat} {v : Value} {L : List (List UInt8)} (h : Strs w B v L) (k : Nat) (hk : k < L.length) : ∃ b o c, v = .slice (some ⟨b, o, none⟩) L.length c ∧ b < B ∧ ∀ j, (h : j < L.length) → w.cell? ⟨b, o + j, none⟩ = some (.string ⟨(L[j]).toArray⟩) := by
  obtain ⟨A, c, rfl, _, _, h3⟩ := h
  obtain ⟨b, o, rfl, hB, hc⟩ := h3 (by omega)
  exact ⟨b, o, c, rfl, hB, hc⟩
theorem drop_eq {L M : List (List UInt8)} {k : Nat} (h1 : k < L.length) (h2 : k < M.length) : (L.drop k = M.drop k) ↔ (L[k] = M[k] ∧ L.drop (k + 1) = M.drop (k + 1)) := by
  rw [drop_consL h1, drop_consL h2, List.cons.injEq]

set_option maxHeartbeats 1000000 in
theorem ref1_texts (v v' : Value) (L M : List (List UInt8)) (w : World) (B B' : Nat) (hv : Strs w B v L) (hv' : Strs w B' v' M) (hl : L.length ≤ 281474976710656) (hl' : M.length ≤ 281474976710656) :
    Calls Tryd.prog 109 #[v, v'] w (Ret w (.bool (L == M))) := by
  generalize hR : (L == M) = R
  replace hR := Lib.hid hR
  have H := Lib.hid hv
  have H' := Lib.hid hv'
  obtain ⟨A, c, rfl, hc1, hc2, _⟩ := hv
  obtain ⟨A', c', rfl, hc1', hc2', _⟩ := hv'
  by_cases hlen : L.length = M.length
  · have hne : ((L.length : Int) != (M.length : Int)) = false := by rw [hlen]; simp
    replace hR : Hid ((decide (L.drop 0 = M.drop 0)) = R) := Lib.hid (by rw [← hR.out, Bool.eq_iff_iff]; simp)
    have hlen' := hlen
    replace hlen := Lib.hid hlen'
    clear hlen'
    go_enter Tryd.func109, Tryd.ntmps109
    go_wp2
    go_loopw [5] (fun i wr => ∃ k : Nat, k ≤ L.length ∧ i = .int .i64 k ∧ Below w.heap.size w wr ∧ (∀ p, wr.cell? p = w.cell? p) ∧ Hid ((decide (L.drop k = M.drop k)) = R)) (fun i _ => L.length - (intOf i).toNat)
    case atStart => exact ⟨0, Nat.zero_le _, rfl, Below.refl _ _, fun _ => rfl, hR⟩
    case round =>
      obtain ⟨k, hk, rfl, hw, hce, hr⟩ := hrel
      by_cases hlt : k < L.length
      · have hkM : k < M.length := by have := hlen.out; omega
        obtain ⟨b, o, d, he, hB, hcell⟩ := H.out.cells k hlt
        obtain ⟨b', o', d', he', hB', hcell'⟩ := H'.out.cells k hkM
        injection he with he1 he2 he3
        injection he' with he1' he2' he3'
        subst he1 he3 he1' he3'
        have hck := (hce _).trans (hcell k hlt)
        have hck' := (hce _).trans (hcell' k hkM)
        replace hce := Lib.hid hce
        clear hcell hcell'
        by_cases hx : L[k] = M[k]
        · have hf : Hid ((decide (L.drop (k + 1) = M.drop (k + 1))) = R) := Lib.hid (by rw [← hr.out, Bool.eq_iff_iff]; simp only [decide_eq_true_eq]; rw [drop_eq hlt hkM]; simp [hx])
          have hb : (L[k] == M[k]) = true := by rw [hx]; simp
          clear hx hr
          go_wp2
          go_quiet (fail)
          go_wp2
          go_roundw
          case rel => exact ⟨k + 1, by omega, by go_num, below_drewN hw _, hce.out, hf⟩
          case measure => simp [intOf]; omega
        · have hf : Hid (R = false) := Lib.hid (by rw [← hr.out, decide_eq_false_iff_not, drop_eq hlt hkM]; exact fun h => hx h.1)
          have hb : (L[k] == M[k]) = false := by rw [beq_eq_false_iff_ne]; exact hx
          clear hx hr
          go_wp2
          go_quiet (fail)
          go_wp2
          go_ret
          exact ⟨by rw [hf.out] <;> rfl, below_drewN hw _⟩
      · have hf : Hid (R = true) := Lib.hid (by have := hlen.out; rw [← hr.out, List.drop_eq_nil_of_le (by omega), List.drop_eq_nil_of_le (by omega)]; simp)
        go_wp2
        go_ret
        exact ⟨by rw [hf.out] <;> rfl, hw⟩
  · have hne : ((L.length : Int) != (M.length : Int)) = true := by rw [bne_iff_ne]; omega
    have hf : Hid (R = false) := Lib.hid (by rw [← hR.out, beq_eq_false_iff_ne]; rintro rfl; exact hlen rfl)
    go_enter Tryd.func109, Tryd.ntmps109
    go_wp2
    go_ret
    exact ⟨by rw [hf.out] <;> rfl, Below.refl _ _⟩

set_option maxHeartbeats 1000000 in
theorem slices_equal (v v' : Value) (L M : List (List UInt8)) (w : World) (B B' : Nat) (hv : Strs w B v L) (hv' : Strs w B' v' M) (hl : L.length ≤ 281474976710656) (hl' : M.length ≤ 281474976710656) :
    Calls Tryd.prog 90 #[v, v'] w (Ret w (.bool (L == M))) := by
  generalize hR : (L == M) = R
  replace hR := Lib.hid hR
  have H := Lib.hid hv
  have H' := Lib.hid hv'
  obtain ⟨A, c, rfl, hc1, hc2, _⟩ := hv
  obtain ⟨A', c', rfl, hc1', hc2', _⟩ := hv'
  by_cases hlen : L.length = M.length
  · have hne : ((L.length : Int) != (M.length : Int)) = false := by rw [hlen]; simp
    replace hR : Hid ((decide (L.drop 0 = M.drop 0)) = R) := Lib.hid (by rw [← hR.out, Bool.eq_iff_iff]; simp)
    have hlen' := hlen
    replace hlen := Lib.hid hlen'
    clear hlen'
    go_enter Tryd.func90, Tryd.ntmps90
    go_wp2
    go_loopw [13] (fun i wr => ∃ k : Nat, k ≤ L.length ∧ i = .int .i64 k ∧ Below w.heap.size w wr ∧ (∀ p, wr.cell? p = w.cell? p) ∧ Hid ((decide (L.drop k = M.drop k)) = R)) (fun i _ => L.length - (intOf i).toNat)
    case atStart => exact ⟨0, Nat.zero_le _, rfl, Below.refl _ _, fun _ => rfl, hR⟩
    case round =>
      obtain ⟨k, hk, rfl, hw, hce, hr⟩ := hrel
      by_cases hlt : k < L.length
      · have hkM : k < M.length := by have := hlen.out; omega
        obtain ⟨b, o, d, he, hB, hcell⟩ := H.out.cells k hlt
        obtain ⟨b', o', d', he', hB', hcell'⟩ := H'.out.cells k hkM
        injection he with he1 he2 he3
        injection he' with he1' he2' he3'
        subst he1 he3 he1' he3'
        have hck := (hce _).trans (hcell k hlt)
        have hck' := (hce _).trans (hcell' k hkM)
        replace hce := Lib.hid hce
        clear hcell hcell'
        by_cases hx : L[k] = M[k]
        · have hf : Hid ((decide (L.drop (k + 1) = M.drop (k + 1))) = R) := Lib.hid (by rw [← hr.out, Bool.eq_iff_iff]; simp only [decide_eq_true_eq]; rw [drop_eq hlt hkM]; simp [hx])
          have hb : (L[k] == M[k]) = true := by rw [hx]; simp
          clear hx hr
          go_wp2
          go_quiet (fail)
          go_wp2
          go_roundw
          case rel => exact ⟨k + 1, by omega, by go_num, below_drewN hw _, hce.out, hf⟩
          case measure => simp [intOf]; omega
        · have hf : Hid (R = false) := Lib.hid (by rw [← hr.out, decide_eq_false_iff_not, drop_eq hlt hkM]; exact fun h => hx h.1)
          have hb : (L[k] == M[k]) = false := by rw [beq_eq_false_iff_ne]; exact hx
          clear hx hr
          go_wp2
          go_quiet (fail)
          go_wp2
          go_ret
          exact ⟨by rw [hf.out] <;> rfl, below_drewN hw _⟩
      · have hf : Hid (R = true) := Lib.hid (by have := hlen.out; rw [← hr.out, List.drop_eq_nil_of_le (by omega), List.drop_eq_nil_of_le (by omega)]; simp)
        go_wp2
        go_ret
        exact ⟨by rw [hf.out] <;> rfl, hw⟩
  · have hne : ((L.length : Int) != (M.length : Int)) = true := by rw [bne_iff_ne]; omega
    have hf : Hid (R = false) := Lib.hid (by rw [← hR.out, beq_eq_false_iff_ne]; rintro rfl; exact hlen rfl)
    go_enter Tryd.func90, Tryd.ntmps90
    go_wp2
    go_ret
    exact ⟨by rw [hf.out] <;> rfl, Below.refl _ _⟩
end Go.Proofs.YthmgcnaoionmoaaDoor
