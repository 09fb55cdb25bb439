/- glacisref11: scheme, domain, pattern, cut. -/
import Derived.Test.YtkfoogmncokjnaaGreatDoorEleven
import Derived.Test.YtkfoogmncokjnaaGreatDoorSrc
namespace Go.Proofs.YtkfoogmncokjnaaGreatDoor
open Go.RowKit
set_option maxHeartbeats 2000000 in
theorem ref11_scheme (s : List UInt8) (w : World) (hs : s.length ≤ 281474976710656) :
    Calls Tryz.prog 103 #[(Value.string ⟨(s).toArray⟩)] w (Same w (.int .i64 (Gl.schLen true s : Nat))) := by
  generalize hR : Gl.schLen true s = R
  replace hR := Lib.hid hR
  go_enter Tryz.func103, Tryz.ntmps103
  go_wp2
  go_loop [3, 4, 5, 6] (fun i _ _ _ => ∃ k : Nat, k ≤ s.length ∧ i = .int .i64 k ∧ Hid (R = k + Gl.schLen (k == 0) (s.drop k))) (fun i _ _ _ => s.length - (intOf i).toNat)
  case atStart => exact ⟨0, Nat.zero_le _, rfl, Lib.hid (by rw [← hR.out]; simp)⟩
  case round =>
    obtain ⟨k, hk, rfl, hr⟩ := hrel
    by_cases hlt : k < s.length
    · rw [drop_cons hlt, schLen_cons] at hr
      have hk0 : ((k : Int) == 0) = (k == 0) := by rw [Bool.eq_iff_iff]; simp
      cases hl : Gl.isLetter s[k] <;> cases hd : Gl.isDigit s[k] <;> cases ho : ([43, 45, 46] : List UInt8).contains s[k] <;> cases hz : (k == 0) <;> rw [hz] at hk0
      all_goals
        rw [hl, hd, ho, hz] at hr
        have hkp : Hid ((k + 1 == 0) = false) := Lib.hid (by simp)
        replace hl := Lib.hid hl
        replace hd := Lib.hid hd
        replace ho := Lib.hid ho
        replace hz := Lib.hid hz
        go_wp2_with (first
          | (go_at_call 139; refine (ref1_letter_at _ _ hl.out).mono ?_; rintro e w' ⟨rfl, rfl⟩)
          | (go_at_call 140; refine (ref1_digit_at _ _ hd.out).mono ?_; rintro e w' ⟨rfl, rfl⟩)
          | (go_at_call 141; refine (ref1_in_at _ [43, 45, 46] _ (by decide) ho.out).mono ?_; rintro e w' ⟨rfl, rfl⟩))
        first
          | (go_round
             case rel => exact ⟨k + 1, by omega, by go_num, Lib.hid (by rw [hr.out, hkp.out, if_pos (by rfl)]; omega)⟩
             case measure => simp [intOf]; omega)
          | (go_ret
             exact ret_nat (by rw [hr.out]; simp))
    · rw [List.drop_eq_nil_of_le (by omega)] at hr
      go_wp2
      go_ret
      exact ret_nat (by rw [hr.out]; rfl)
set_option maxHeartbeats 2000000 in
theorem ref11_cut (s : List UInt8) (c : UInt8) (w : World) (hs : s.length ≤ 281474976710656) :
    Calls Tryz.prog 104 #[(Value.string ⟨(s).toArray⟩), .int .u8 c.toNat] w (Ret w (.tuple #[(Value.string ⟨((Gl.span [c] s).1).toArray⟩), (Value.string ⟨((Gl.span [c] s).2.drop 1).toArray⟩), .bool (!(Gl.span [c] s).2.isEmpty)])) := by
  generalize hR : Gl.span [c] s = R
  replace hR := Lib.hid hR
  obtain ⟨a, b⟩ := R
  go_enter Tryz.func104, Tryz.ntmps104
  go_wp2
  go_loop [7] (fun i => ∃ k : Nat, k ≤ s.length ∧ i = .int .i64 k ∧ Hid ((s.take k).all (fun x => !([c] : List UInt8).contains x) = true)) (fun i => s.length - (intOf i).toNat)
  case atStart => exact ⟨0, Nat.zero_le _, rfl, Lib.hid rfl⟩
  case round =>
    obtain ⟨k, hk, rfl, hr⟩ := hrel
    by_cases hlt : k < s.length
    · by_cases hx : s[k] = c
      · have hf : Hid ((a, b) = (s.take k, s.drop k)) := Lib.hid (by rw [← hR.out]; exact span_go [c] s k hr.out hlt (by simp [hx]))
        have hb : ((s[k].toNat : Int) == c.toNat) = true := by rw [hx]; simp
        have hdk : Hid ((s.drop k).isEmpty = false) := Lib.hid (by rw [drop_cons hlt]; rfl)
        clear hx
        go_wp2
        go_quiet (fail)
        go_wp2
        refine bodyPost_ret (v := .tuple #[(Value.string ⟨(s.take k).toArray⟩), (Value.string ⟨(s.drop (k + 1)).toArray⟩), .bool true]) (by simp only [results, Tryz.results104]; go_simp) rfl ⟨?_, by (repeat' first | (with_reducible exact Below.refl _ _) | (with_reducible refine Below.setCell ?_ (by first | omega | (simp; done) | (simp; omega)) _) | (with_reducible refine Below.alloc ?_ (by first | omega | (simp; done) | (simp; omega)) _) | refine below_drewN ?_ _ | refine Below.drew ?_ | (refine below_thru (by assumption) ?_ (by first | omega | (simp; done) | (simp; omega))) | exact Below.refl _ _)⟩
        have e1 : a = s.take k := congrArg Prod.fst hf.out
        have e2 : b = s.drop k := congrArg Prod.snd hf.out
        rw [e1, e2, List.drop_drop, hdk.out]
        rfl
      · have hf : Hid ((s.take (k + 1)).all (fun x => !([c] : List UInt8).contains x) = true) := Lib.hid (by rw [List.take_succ_eq_append_getElem hlt, List.all_append, hr.out]; simp [hx])
        have hb : ((s[k].toNat : Int) == c.toNat) = false := by
          rw [beq_eq_false_iff_ne]; intro h; exact hx (UInt8.toNat_inj.1 (by omega))
        clear hx
        go_wp2
        go_round
        case rel => exact ⟨k + 1, by omega, by go_num, hf⟩
        case measure => simp [intOf]; omega
    · have hf : Hid ((a, b) = (s, [])) := Lib.hid (by rw [← hR.out, span_all]; rw [← hr.out, List.take_of_length_le (by omega)])
      go_wp2
      refine bodyPost_ret (v := .tuple #[(Value.string ⟨(s).toArray⟩), (Value.string ⟨(([] : List UInt8)).toArray⟩), .bool false]) (by simp only [results, Tryz.results104]; go_simp) rfl ⟨?_, by (repeat' first | (with_reducible exact Below.refl _ _) | (with_reducible refine Below.setCell ?_ (by first | omega | (simp; done) | (simp; omega)) _) | (with_reducible refine Below.alloc ?_ (by first | omega | (simp; done) | (simp; omega)) _) | refine below_drewN ?_ _ | refine Below.drew ?_ | (refine below_thru (by assumption) ?_ (by first | omega | (simp; done) | (simp; omega))) | exact Below.refl _ _)⟩
      have e1 : a = s := congrArg Prod.fst hf.out
      have e2 : b = [] := congrArg Prod.snd hf.out
      rw [e1, e2]
      rfl
set_option maxHeartbeats 2000000 in
theorem ref11_domain (s : List UInt8) (w : World) (hs : s.length ≤ 1099511627774) :
    Calls Tryz.prog 142 #[(Value.string ⟨(s).toArray⟩)] w (Ret w (.bool (Gl.domain s))) := by
  by_cases hl : 1 ≤ s.length ∧ s.length ≤ 253
  · have hsp : ∀ W, Calls Tryz.prog 124 #[(Value.string ⟨(s).toArray⟩), .int .u8 46] W (RetStrs W (Gl.split 46 s)) := fun W => ref1_split s 46 W hs
    have hmem := split_mem 46 s
    have hlen := split_len 46 s
    have hpos := split_pos 46 s
    generalize hR : Gl.domain s = R
    unfold Gl.domain at hR
    generalize Gl.split 46 s = L at *
    replace hsp := Lib.hid hsp
    replace hmem := Lib.hid hmem
    replace hR : Hid (L.all Gl.isLabel = R) := Lib.hid (by rw [← hR]; simp [hl.2])
    go_enter Tryz.func142, Tryz.ntmps142
    go_wp2_with (go_at_call 124; refine ( hsp.out _).mono ?_; rintro e w1 ⟨v, rfl, hst, hb⟩; obtain ⟨hc, hfz⟩ := bcell hb; have hz := hb.size; (try simp at hz); (try have hz0 : w.heap.size < w1.heap.size := by omega); (try have hz1 : w.heap.size + 1 < w1.heap.size := by omega); (try have hz2 : w.heap.size + 2 < w1.heap.size := by omega); (try have hz3 : w.heap.size + 3 < w1.heap.size := by omega); obtain ⟨lb, lc, hlc, hlm, hlB, hlv, _, hlcell⟩ := hst.at_; obtain rfl := hlv ( hpos); obtain ⟨hlb, hlB⟩ := hlB ( hpos))
    have hw1 : Below w.heap.size w w1 := by (repeat' first | (with_reducible exact Below.refl _ _) | (with_reducible refine Below.setCell ?_ (by first | omega | (simp; done) | (simp; omega)) _) | (with_reducible refine Below.alloc ?_ (by first | omega | (simp; done) | (simp; omega)) _) | refine below_drewN ?_ _ | refine Below.drew ?_ | (refine below_thru (by assumption) ?_ (by first | omega | (simp; done) | (simp; omega))) | exact Below.refl _ _)
    replace hlcell := Lib.hid hlcell
    clear hst hc hfz hb
    go_loop [4, 5, 6, 7] (fun i _ _ _ => ∃ k : Nat, k ≤ L.length ∧ i = .int .i64 k ∧ Hid ((L.drop k).all Gl.isLabel = R)) (fun i _ _ _ => L.length - (intOf i).toNat)
    case atStart => exact ⟨0, Nat.zero_le _, rfl, hR⟩
    case round =>
      obtain ⟨k, hk, rfl, hr⟩ := hrel
      by_cases hlt : k < L.length
      · have hck := hlcell.out k hlt
        have hxl := hmem.out L[k] (List.getElem_mem hlt)
        rw [drop_consL hlt, List.all_cons] at hr
        generalize L[k] = x at *
        by_cases hx : 1 ≤ x.length ∧ x.length ≤ 63
        · obtain ⟨hx1, hx2⟩ := hx
          replace hr : Hid ((x.all Gl.isSmall && (L.drop (k + 1)).all Gl.isLabel) = R) := Lib.hid (by rw [← hr.out]; simp [Gl.isLabel, hx1, hx2])
          go_wp2
          go_loop [5, 6, 7] (fun j _ _ => ∃ m : Nat, m ≤ x.length ∧ j = .int .i64 m ∧ Hid (((x.drop m).all Gl.isSmall && (L.drop (k + 1)).all Gl.isLabel) = R)) (fun j _ _ => x.length - (intOf j).toNat)
          case atStart => exact ⟨0, Nat.zero_le _, rfl, hr⟩
          case round =>
            obtain ⟨m, hm, rfl, hr2⟩ := hrel
            by_cases hmt : m < x.length
            · rw [drop_cons hmt, List.all_cons] at hr2
              have hc256 := (x[m]).toNat_lt
              go_wp2
              all_goals first
                | (go_ret
                   refine ⟨?_, hw1⟩
                   have hq : Gl.isSmall x[m] = false := by simp [Gl.isSmall]; simp at *; omega
                   rw [← hr2.out, hq]
                   rfl)
                | (go_round
                   case rel =>
                     refine ⟨m + 1, by omega, by go_num, Lib.hid ?_⟩
                     have hq : Gl.isSmall x[m] = true := by simp [Gl.isSmall]; simp at *; omega
                     rw [← hr2.out, hq, Bool.true_and]
                   case measure => simp [intOf]; omega)
            · have hf : Hid ((L.drop (k + 1)).all Gl.isLabel = R) := Lib.hid (by rw [← hr2.out, List.drop_eq_nil_of_le (show x.length ≤ m by omega)]; rfl)
              go_wp2
              go_round
              case rel => exact ⟨k + 1, by omega, by go_num, hf⟩
              case measure => simp [intOf]; omega
        · have hf : Hid (R = false) := Lib.hid (by rw [← hr.out]; simp [Gl.isLabel]; omega)
          rcases (show x.length < 1 ∨ 63 < x.length by omega) with h | h
          all_goals
            clear hx
            go_wp2
            go_ret
            exact ⟨by rw [hf.out] <;> rfl, hw1⟩
      · have hf : Hid (R = true) := Lib.hid (by rw [← hr.out, List.drop_eq_nil_of_le (by omega)]; rfl)
        go_wp2
        go_ret
        exact ⟨by rw [hf.out] <;> rfl, hw1⟩
  · have hf : Gl.domain s = false := by
      unfold Gl.domain
      by_cases h0 : s.length = 0
      · have : s = [] := List.eq_nil_of_length_eq_zero h0
        subst this
        decide
      · rw [decide_eq_false (by omega), Bool.false_and]
    rw [hf]
    rcases (show s.length < 1 ∨ 253 < s.length by omega) with h | h
    all_goals
      clear hl hf
      go_enter Tryz.func142, Tryz.ntmps142
      go_wp2
      go_ret
      exact ⟨rfl, by (repeat' first | (with_reducible exact Below.refl _ _) | (with_reducible refine Below.setCell ?_ (by first | omega | (simp; done) | (simp; omega)) _) | (with_reducible refine Below.alloc ?_ (by first | omega | (simp; done) | (simp; omega)) _) | refine below_drewN ?_ _ | refine Below.drew ?_ | (refine below_thru (by assumption) ?_ (by first | omega | (simp; done) | (simp; omega))) | exact Below.refl _ _)⟩
theorem pattern_eq (s : Gl.Bs) (h : s ≠ [42]) : Gl.pattern s = Gl.domain (if 2 < s.length ∧ ([42, 46] : Gl.Bs).isPrefixOf s then s.drop 2 else s) := by
  unfold Gl.pattern
  rw [beq_eq_false_iff_ne.2 h, Bool.false_or]
  by_cases hp : ([42, 46] : Gl.Bs).isPrefixOf s = true
  · rw [if_pos hp]
    by_cases hl : 2 < s.length
    · rw [if_pos ⟨hl, hp⟩]
    · rw [if_neg (fun h => hl h.1)]
      obtain ⟨t, ht⟩ := List.isPrefixOf_iff_prefix.1 hp
      have : t = [] := by
        cases t with
        | nil => rfl
        | cons a r => rw [← ht] at hl; simp at hl
      subst this
      rw [← ht]
      decide
  · rw [if_neg hp, if_neg (fun h => hp h.2)]
theorem prefix_take (p s : Gl.Bs) : p.isPrefixOf s = (s.take p.length == p) := by
  rw [Bool.eq_iff_iff, List.isPrefixOf_iff_prefix, List.prefix_iff_eq_take]
  simp
  exact ⟨fun h => h.symm, fun h => h.symm⟩
set_option maxHeartbeats 1000000 in
theorem ref11_pattern (s : List UInt8) (w : World) (hs : s.length ≤ 1099511627774) : Calls Tryz.prog 105 #[(Value.string ⟨(s).toArray⟩)] w (Ret w (.bool (Gl.pattern s))) := by
  by_cases hp : s = [42]
  · subst hp
    go_enter Tryz.func105, Tryz.ntmps105
    go_wp2
    go_ret
    exact ⟨rfl, by (repeat' first | (with_reducible exact Below.refl _ _) | (with_reducible refine Below.setCell ?_ (by first | omega | (simp; done) | (simp; omega)) _) | (with_reducible refine Below.alloc ?_ (by first | omega | (simp; done) | (simp; omega)) _) | refine below_drewN ?_ _ | refine Below.drew ?_ | (refine below_thru (by assumption) ?_ (by first | omega | (simp; done) | (simp; omega))) | exact Below.refl _ _)⟩
  · rw [pattern_eq s hp]
    have hp1 : (s == [42]) = false := by rw [beq_eq_false_iff_ne]; exact hp
    by_cases hl : 2 < s.length
    · cases hb : ([42, 46] : List UInt8).isPrefixOf s
      · rw [if_neg (fun h => by cases h.2)]
        have hd := fun W => ref11_domain s W hs
        have hb2 : (s.take 2 == [42, 46]) = false := by rw [← hb]; exact (prefix_take [42, 46] s).symm
        generalize Gl.domain s = R at *
        replace hd := Lib.hid hd
        replace hb := Lib.hid hb
        clear hp
        go_enter Tryz.func105, Tryz.ntmps105
        go_wp2_with (go_at_call 142; refine ( hd.out _).mono ?_; rintro e w1 ⟨rfl, hb⟩; obtain ⟨hc, hfz⟩ := bcell hb; have hz := hb.size; (try simp at hz); (try have hz0 : w.heap.size < w1.heap.size := by omega); (try have hz1 : w.heap.size + 1 < w1.heap.size := by omega); (try have hz2 : w.heap.size + 2 < w1.heap.size := by omega); (try have hz3 : w.heap.size + 3 < w1.heap.size := by omega); (try have hcA := fun o => hc w.heap.size o (by first | omega | (simp; omega))); (try have hcB := fun o => hc (w.heap.size + 1) o (by first | omega | (simp; omega))))
        go_ret
        exact ⟨rfl, by (repeat' first | (with_reducible exact Below.refl _ _) | (with_reducible refine Below.setCell ?_ (by first | omega | (simp; done) | (simp; omega)) _) | (with_reducible refine Below.alloc ?_ (by first | omega | (simp; done) | (simp; omega)) _) | refine below_drewN ?_ _ | refine Below.drew ?_ | (refine below_thru (by assumption) ?_ (by first | omega | (simp; done) | (simp; omega))) | exact Below.refl _ _)⟩
      · rw [if_pos ⟨hl, rfl⟩]
        have hd := fun W => ref11_domain (s.drop 2) W (by simp; omega)
        have hb2 : (s.take 2 == [42, 46]) = true := by rw [← hb]; exact (prefix_take [42, 46] s).symm
        generalize Gl.domain (s.drop 2) = R at *
        replace hd := Lib.hid hd
        replace hb := Lib.hid hb
        clear hp
        go_enter Tryz.func105, Tryz.ntmps105
        go_wp2_with (go_at_call 142; refine ( hd.out _).mono ?_; rintro e w1 ⟨rfl, hb⟩; obtain ⟨hc, hfz⟩ := bcell hb; have hz := hb.size; (try simp at hz); (try have hz0 : w.heap.size < w1.heap.size := by omega); (try have hz1 : w.heap.size + 1 < w1.heap.size := by omega); (try have hz2 : w.heap.size + 2 < w1.heap.size := by omega); (try have hz3 : w.heap.size + 3 < w1.heap.size := by omega); (try have hcA := fun o => hc w.heap.size o (by first | omega | (simp; omega))); (try have hcB := fun o => hc (w.heap.size + 1) o (by first | omega | (simp; omega))))
        go_ret
        exact ⟨rfl, by (repeat' first | (with_reducible exact Below.refl _ _) | (with_reducible refine Below.setCell ?_ (by first | omega | (simp; done) | (simp; omega)) _) | (with_reducible refine Below.alloc ?_ (by first | omega | (simp; done) | (simp; omega)) _) | refine below_drewN ?_ _ | refine Below.drew ?_ | (refine below_thru (by assumption) ?_ (by first | omega | (simp; done) | (simp; omega))) | exact Below.refl _ _)⟩
    · rw [if_neg (fun h => hl h.1)]
      have hd := fun W => ref11_domain s W hs
      generalize Gl.domain s = R at *
      replace hd := Lib.hid hd
      clear hp
      go_enter Tryz.func105, Tryz.ntmps105
      go_wp2_with (go_at_call 142; refine ( hd.out _).mono ?_; rintro e w1 ⟨rfl, hb⟩; obtain ⟨hc, hfz⟩ := bcell hb; have hz := hb.size; (try simp at hz); (try have hz0 : w.heap.size < w1.heap.size := by omega); (try have hz1 : w.heap.size + 1 < w1.heap.size := by omega); (try have hz2 : w.heap.size + 2 < w1.heap.size := by omega); (try have hz3 : w.heap.size + 3 < w1.heap.size := by omega); (try have hcA := fun o => hc w.heap.size o (by first | omega | (simp; omega))); (try have hcB := fun o => hc (w.heap.size + 1) o (by first | omega | (simp; omega))))
      go_ret
      exact ⟨rfl, by (repeat' first | (with_reducible exact Below.refl _ _) | (with_reducible refine Below.setCell ?_ (by first | omega | (simp; done) | (simp; omega)) _) | (with_reducible refine Below.alloc ?_ (by first | omega | (simp; done) | (simp; omega)) _) | refine below_drewN ?_ _ | refine Below.drew ?_ | (refine below_thru (by assumption) ?_ (by first | omega | (simp; done) | (simp; omega))) | exact Below.refl _ _)⟩
end Go.Proofs.YtkfoogmncokjnaaGreatDoor
