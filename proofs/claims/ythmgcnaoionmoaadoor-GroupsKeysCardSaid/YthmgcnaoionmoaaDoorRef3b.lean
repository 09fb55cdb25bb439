/- The rest of the smaller functions of glacisref03. -/
import Derived.Test.YthmgcnaoionmoaaDoorRef3a
namespace Go.Proofs.YthmgcnaoionmoaaDoor
open Go.RowKit

theorem ref3_fails (n : Int) (w : World) :
    Calls Tryd.prog 53 #[.int .i64 n] w (Ret w (.tuple #[(Value.agg #[(Value.string ⟨#[]⟩), (Value.string ⟨#[]⟩), (Value.bool false), (Value.int .u32 0), (Value.int .i64 0), (Value.string ⟨#[]⟩), (Value.bool false), (Value.string ⟨#[]⟩), (Value.string ⟨#[]⟩)]), .int .i64 n])) := by
  go_enter Tryd.func53, Tryd.ntmps53
  go_wp2
  exact bodyPost_ret (v := .tuple #[(Value.agg #[(Value.string ⟨#[]⟩), (Value.string ⟨#[]⟩), (Value.bool false), (Value.int .u32 0), (Value.int .i64 0), (Value.string ⟨#[]⟩), (Value.bool false), (Value.string ⟨#[]⟩), (Value.string ⟨#[]⟩)]), .int .i64 n]) (by simp [results, Tryd.results53, go_sem]) rfl ⟨rfl, (Below.refl _ _).alloc (Nat.le_refl _) _⟩

theorem net_eq (u : Gl.URL) : Gl.isNet u = (u.scheme == [104, 116, 116, 112] || u.scheme == [104, 116, 116, 112, 115]) := rfl

theorem ref3_net (u : Gl.URL) (w : World) :
    Calls Tryd.prog 27 #[(Value.agg #[(Value.string ⟨((u).scheme).toArray⟩), (Value.string ⟨(((u).host).name).toArray⟩), (Value.bool ((u).host).v4), (Value.int .u32 (((u).host).addr : Int)), (Value.int .i64 (u).port), (Value.string ⟨((u).path).toArray⟩), (Value.bool (u).hasQuery), (Value.string ⟨((u).query).toArray⟩), (Value.string ⟨((u).rest).toArray⟩)])] w (Ret w (.bool (Gl.isNet u))) := by
  generalize hR : Gl.isNet u = R
  replace hR := Lib.hid hR
  go_enter Tryd.func27, Tryd.ntmps27
  go_wp2
  all_goals
    go_ret
    refine ⟨?_, (Below.refl _ _).alloc (Nat.le_refl _) _⟩
    rw [← hR.out, net_eq]
    simp [*]
  
theorem urlp_net (u : Gl.URL) (w : World) :
    Calls Tryd.prog 26 #[(Value.agg #[(Value.string ⟨((u).scheme).toArray⟩), (Value.string ⟨(((u).host).name).toArray⟩), (Value.bool ((u).host).v4), (Value.int .u32 (((u).host).addr : Int)), (Value.int .i64 (u).port), (Value.string ⟨((u).path).toArray⟩), (Value.bool (u).hasQuery), (Value.string ⟨((u).query).toArray⟩), (Value.string ⟨((u).rest).toArray⟩)])] w (Ret w (.bool (Gl.isNet u))) := by
  generalize hR : Gl.isNet u = R
  replace hR := Lib.hid hR
  go_enter Tryd.func26, Tryd.ntmps26
  go_wp2
  all_goals
    go_ret
    refine ⟨?_, (Below.refl _ _).alloc (Nat.le_refl _) _⟩
    rw [← hR.out, net_eq]
    simp [*]

theorem ref3_own (s : List UInt8) (w : World) :
    Calls Tryd.prog 84 #[(Value.string ⟨(s).toArray⟩)] w (Same w (.int .i64 (Gl.own s))) := by
  generalize hR : Gl.own s = R
  replace hR := Lib.hid hR
  go_enter Tryd.func84, Tryd.ntmps84
  go_wp2
  all_goals
    go_ret
    refine ⟨?_, rfl⟩
    rw [← hR.out]
    simp [Gl.own, Gl.https] at *
    simp [*]

theorem ref3_begins (s p : List UInt8) (w : World) :
    Calls Tryd.prog 58 #[(Value.string ⟨(s).toArray⟩), (Value.string ⟨(p).toArray⟩)] w (Same w (.bool (p.isPrefixOf s))) := by
  generalize hR : p.isPrefixOf s = R
  replace hR := Lib.hid hR
  have hq : p.isPrefixOf s = true ↔ p.length ≤ s.length ∧ s.take p.length = p := by
    rw [List.isPrefixOf_iff_prefix, List.prefix_iff_eq_take]
    refine ⟨fun h => ⟨?_, h.symm⟩, fun h => h.2.symm⟩
    have := congrArg List.length h
    simp at this
    omega
  rw [hR.out] at hq
  replace hq := Lib.hid hq
  by_cases hl : p.length ≤ s.length
  · go_enter Tryd.func58, Tryd.ntmps58
    go_wp2
    go_ret
    refine ret_bool ?_
    rw [hq.out]
    simp [hl]
  · go_enter Tryd.func58, Tryd.ntmps58
    go_wp2
    go_ret
    refine ret_bool ?_
    rw [hq.out]
    simp [hl]

theorem ref3_cut (s of : List UInt8) (w : World) (hs : s.length ≤ 281474976710656) (ho : of.length ≤ 281474976710656) :
    Calls Tryd.prog 54 #[(Value.string ⟨(s).toArray⟩), (Value.string ⟨(of).toArray⟩)] w (Ret w (.tuple #[(Value.string ⟨((Gl.span of s).1).toArray⟩), (Value.string ⟨((Gl.span of s).2).toArray⟩)])) := by
  generalize hR : Gl.span of s = R
  replace hR := Lib.hid hR
  go_enter Tryd.func54, Tryd.ntmps54
  go_wp2
  go_loop [6, 7] (fun i _ => ∃ k : Nat, k ≤ s.length ∧ i = .int .i64 k ∧ Hid ((s.take k).all (fun c => !of.contains c) = true)) (fun i _ => s.length - (intOf i).toNat)
  case atStart => exact ⟨0, Nat.zero_le _, rfl, Lib.hid rfl⟩
  case round =>
    obtain ⟨k, hk, rfl, hr⟩ := hrel
    by_cases hlt : k < s.length
    · cases hc : of.contains s[k] with
      | true =>
        have hf : Hid (R = (s.take k, s.drop k)) := Lib.hid (by rw [← hR.out, span_go of s k hr.out hlt hc])
        replace hc := Lib.hid hc
        go_wp2_with (go_at_call 79; refine (ref1_in_at _ _ _ ho hc.out).mono ?_; rintro e w' ⟨rfl, rfl⟩)
        go_quiet (fail)
        go_wp2
        go_ret2
        exact ⟨by rw [hf.out]; rfl, below_drewN (Below.refl _ _) _⟩
      | false =>
        have hf : Hid ((s.take (k + 1)).all (fun c => !of.contains c) = true) := Lib.hid (by rw [List.take_succ_eq_append_getElem hlt, List.all_append, hr.out]; simp at hc ⊢; exact hc)
        replace hc := Lib.hid hc
        go_wp2_with (go_at_call 79; refine (ref1_in_at _ _ _ ho hc.out).mono ?_; rintro e w' ⟨rfl, rfl⟩)
        go_round
        case rel => exact ⟨k + 1, by omega, by go_num, hf⟩
        case measure => simp [intOf]; omega
    · have hf : Hid (R = (s, [])) := Lib.hid (by rw [← hR.out, span_all]; rw [← hr.out, List.take_of_length_le (by omega)])
      go_wp2
      go_ret2
      exact ⟨by rw [hf.out]; rfl, Below.refl _ _⟩

theorem schemeGo_cons (first : Bool) (c : UInt8) (r : List UInt8) : Gl.schemeGo first (c :: r) = ((Gl.isLetter c || (!first && (Gl.isDigit c || [43, 45, 46].contains c))) && Gl.schemeGo false r) := rfl
theorem ref1_letter_at (c : UInt8) (w : World) {b : Bool} (h : Gl.isLetter c = b) :
    Calls Tryd.prog 80 #[.int .u8 c.toNat] w (Same w (.bool b)) := h ▸ ref1_letter c w

set_option maxHeartbeats 1000000 in
theorem ref3_scheme (s : List UInt8) (w : World) (hs : s.length ≤ 281474976710656) :
    Calls Tryd.prog 56 #[(Value.string ⟨(s).toArray⟩)] w (Same w (.bool (Gl.scheme s))) := by
  generalize hR : Gl.scheme s = R
  replace hR := Lib.hid hR
  go_enter Tryd.func56, Tryd.ntmps56
  go_wp2
  go_loop [3, 4, 5, 6] (fun i _ _ _ => ∃ k : Nat, k ≤ s.length ∧ i = .int .i64 k ∧ Hid (R = (!s.isEmpty && Gl.schemeGo (k == 0) (s.drop k)))) (fun i _ _ _ => s.length - (intOf i).toNat)
  case atStart => exact ⟨0, Nat.zero_le _, rfl, Lib.hid (by rw [← hR.out]; rfl)⟩
  case round =>
    obtain ⟨k, hk, rfl, hr⟩ := hrel
    by_cases hlt : k < s.length
    · have he : s.isEmpty = false := by cases s <;> simp_all
      rw [drop_cons hlt, he, schemeGo_cons] at hr
      have hk0 : ((k : Int) == 0) = (k == 0) := by rw [Bool.eq_iff_iff]; simp
      cases hl : Gl.isLetter s[k] <;> cases hd : Gl.isDigit s[k] <;> cases ho : [43, 45, 46].contains s[k] <;> cases hz : (k == 0) <;> rw [hz] at hk0
      all_goals
        rw [hl, hd, ho, hz] at hr
        have hkp : Hid ((k + 1 == 0) = false) := Lib.hid (by simp)
        replace hl := Lib.hid hl
        replace hd := Lib.hid hd
        replace ho := Lib.hid ho
        replace hz := Lib.hid hz
        replace he := Lib.hid he
        go_wp2_with (first
          | (go_at_call 80; refine (ref1_letter_at _ _ hl.out).mono ?_; rintro e w' ⟨rfl, rfl⟩)
          | (go_at_call 81; refine (ref1_digit_at _ _ hd.out).mono ?_; rintro e w' ⟨rfl, rfl⟩)
          | (go_at_call 79; refine (ref1_in_at _ [43, 45, 46] _ (by decide) ho.out).mono ?_; rintro e w' ⟨rfl, rfl⟩))
        first
          | (go_round
             case rel => exact ⟨k + 1, by omega, by go_num, Lib.hid (by rw [hr.out, hkp.out, he.out]; rfl)⟩
             case measure => simp [intOf]; omega)
          | (go_ret
             exact ret_bool (by rw [hr.out]; simp))
    · by_cases he : s.isEmpty = true
      · obtain rfl : s = [] := by simpa using he
        go_wp2
        go_ret
        exact ret_bool (by rw [hr.out]; simp)
      · replace he : s.isEmpty = false := by simpa using he
        rw [List.drop_eq_nil_of_le (by omega), he] at hr
        go_wp2
        go_ret
        exact ret_bool (by rw [hr.out]; simp [Gl.schemeGo])

end Go.Proofs.YthmgcnaoionmoaaDoor
