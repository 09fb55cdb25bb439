/- glacisref11.Parse: the source expression that a text is. -/
import Derived.Test.YtkfoogmncokjnaaGreatDoorRefSrc
namespace Go.Proofs.YtkfoogmncokjnaaGreatDoor
open Go.RowKit
attribute [local irreducible] Calls
set_option maxRecDepth 100000 in
set_option maxHeartbeats 2000000 in
theorem ref11_parse (s0 : List UInt8) (w : World) (hs0 : s0.length ≤ 4294967280) : Calls Tryz.prog 78 #[(Value.string ⟨(s0).toArray⟩)] w (Ret w ((Value.agg #[(Value.int .i64 (Gl.sourceOf s0).kind), (Value.string ⟨((Gl.sourceOf s0).scheme).toArray⟩), (Value.string ⟨((Gl.sourceOf s0).host).toArray⟩), (Value.int .i64 (Gl.sourceOf s0).port)]))) := by
  have hl : ∀ W, Calls Tryz.prog 102 #[(Value.string ⟨(s0).toArray⟩)] W (Ret W ((Value.string ⟨(Gl.lower s0).toArray⟩))) := fun W => ref1_lower s0 W (by omega)
  have hln := lower_length s0
  have hR : Gl.sourceOf s0 = if Gl.lower s0 = Gl.selfQ then { kind := 1 } else if Gl.lower s0 = [42] then { kind := 2 } else Gl.sourceOf1 (Gl.lower s0) (Gl.schLen true (Gl.lower s0)) := rfl
  generalize Gl.sourceOf s0 = R at *
  generalize Gl.lower s0 = s at *
  replace hl := Lib.hid hl
  by_cases h1 : s = Gl.selfQ
  · rw [if_pos h1] at hR
    subst hR h1
    go_enter Tryz.func78, Tryz.ntmps78
    go_wp2_with (go_at_call 102; refine ( hl.out _).mono ?_; rintro e w1 ⟨rfl, hb⟩; obtain ⟨hc, hfz⟩ := bcell hb; have hz := hb.size; (try simp at hz); (try have hz0 : w.heap.size < w1.heap.size := by omega); (try have hz1 : w.heap.size + 1 < w1.heap.size := by omega); (try have hz2 : w.heap.size + 2 < w1.heap.size := by omega); (try have hz3 : w.heap.size + 3 < w1.heap.size := by omega); (try have hcA := fun o => hc w.heap.size o (by first | omega | (simp; omega))); (try have hcB := fun o => hc (w.heap.size + 1) o (by first | omega | (simp; omega))); (try have hcGgA := fun o => hc gA o (by first | omega | (simp; omega))); (try have hfGgA := fun o => hfz gA o (by first | omega | (simp; omega))); (try have hzGgA : gA < w1.heap.size := by omega))
    refine bodyPost_ret (v := (.agg #[.int .i64 1, .string ⟨#[]⟩, .string ⟨#[]⟩, .int .i64 0])) (by simp only [results, Tryz.results78]; go_simp) rfl ⟨rfl, ?_⟩
    (repeat' first | (with_reducible exact Below.refl _ _) | (with_reducible refine Below.setCell ?_ (by first | omega | (simp; done) | (simp; omega)) _) | (with_reducible refine Below.alloc ?_ (by first | omega | (simp; done) | (simp; omega)) _) | refine below_drewN ?_ _ | refine Below.drew ?_ | (refine below_thru (by assumption) ?_ (by first | omega | (simp; done) | (simp; omega))) | exact Below.refl _ _)
  rw [if_neg h1] at hR
  have h1b : (s == [39, 115, 101, 108, 102, 39]) = false := by rw [beq_eq_false_iff_ne]; exact h1
  by_cases h2 : s = [42]
  · rw [if_pos h2] at hR
    subst hR h2
    go_enter Tryz.func78, Tryz.ntmps78
    go_wp2_with (go_at_call 102; refine ( hl.out _).mono ?_; rintro e w1 ⟨rfl, hb⟩; obtain ⟨hc, hfz⟩ := bcell hb; have hz := hb.size; (try simp at hz); (try have hz0 : w.heap.size < w1.heap.size := by omega); (try have hz1 : w.heap.size + 1 < w1.heap.size := by omega); (try have hz2 : w.heap.size + 2 < w1.heap.size := by omega); (try have hz3 : w.heap.size + 3 < w1.heap.size := by omega); (try have hcA := fun o => hc w.heap.size o (by first | omega | (simp; omega))); (try have hcB := fun o => hc (w.heap.size + 1) o (by first | omega | (simp; omega))); (try have hcGgA := fun o => hc gA o (by first | omega | (simp; omega))); (try have hfGgA := fun o => hfz gA o (by first | omega | (simp; omega))); (try have hzGgA : gA < w1.heap.size := by omega))
    refine bodyPost_ret (v := (.agg #[.int .i64 2, .string ⟨#[]⟩, .string ⟨#[]⟩, .int .i64 0])) (by simp only [results, Tryz.results78]; go_simp) rfl ⟨rfl, ?_⟩
    (repeat' first | (with_reducible exact Below.refl _ _) | (with_reducible refine Below.setCell ?_ (by first | omega | (simp; done) | (simp; omega)) _) | (with_reducible refine Below.alloc ?_ (by first | omega | (simp; done) | (simp; omega)) _) | refine below_drewN ?_ _ | refine Below.drew ?_ | (refine below_thru (by assumption) ?_ (by first | omega | (simp; done) | (simp; omega))) | exact Below.refl _ _)
  rw [if_neg h2] at hR
  have h2b : (s == [42]) = false := by simpa using h2
  clear h1 h2
  have hsl := schLen_le true s
  have hsc := fun W => ref11_scheme s W (by omega)
  generalize Gl.schLen true s = n at *
  replace hsc := Lib.hid hsc
  have hlb : s.length ≤ 4294967280 := by omega
  replace hln := Lib.hid hln
  by_cases h3 : 0 < n ∧ s.drop n = [58]
  · unfold Gl.sourceOf1 at hR
    rw [if_pos h3] at hR
    subst hR
    obtain ⟨h3a, h3c⟩ := h3
    have hlen : s.length = n + 1 := by have := congrArg List.length h3c; simp at this; omega
    have hnl : n < s.length := by omega
    have hsn : s[n] = 58 := by have := drop_cons hnl; rw [h3c] at this; injection this with h _; exact h.symm
    have h3b : ((n : Int) == (s.length : Int) - 1) = true := by simp; omega
    have h3d : ((s[n].toNat : Int) == 58) = true := by rw [hsn]; rfl
    replace hlen := Lib.hid hlen
    clear h3c hsn
    go_enter Tryz.func78, Tryz.ntmps78
    go_wp2_with (first | (go_at_call 102; refine ( hl.out _).mono ?_; rintro e w1 ⟨rfl, hb⟩; obtain ⟨hc, hfz⟩ := bcell hb; have hz := hb.size; (try simp at hz); (try have hz0 : w.heap.size < w1.heap.size := by omega); (try have hz1 : w.heap.size + 1 < w1.heap.size := by omega); (try have hz2 : w.heap.size + 2 < w1.heap.size := by omega); (try have hz3 : w.heap.size + 3 < w1.heap.size := by omega); (try have hcA := fun o => hc w.heap.size o (by first | omega | (simp; omega))); (try have hcB := fun o => hc (w.heap.size + 1) o (by first | omega | (simp; omega))); (try have hcGgA := fun o => hc gA o (by first | omega | (simp; omega))); (try have hfGgA := fun o => hfz gA o (by first | omega | (simp; omega))); (try have hzGgA : gA < w1.heap.size := by omega)) | (go_at_call 103; refine ( hsc.out _).mono ?_; rintro e w1 ⟨rfl, rfl⟩))
    refine bodyPost_ret (v := (.agg #[.int .i64 3, (Value.string ⟨(s.take n).toArray⟩), .string ⟨#[]⟩, .int .i64 0])) (by simp only [results, Tryz.results78]; go_simp) rfl ⟨rfl, ?_⟩
    (repeat' first | (with_reducible exact Below.refl _ _) | (with_reducible refine Below.setCell ?_ (by first | omega | (simp; done) | (simp; omega)) _) | (with_reducible refine Below.alloc ?_ (by first | omega | (simp; done) | (simp; omega)) _) | refine below_drewN ?_ _ | refine Below.drew ?_ | (refine below_thru (by assumption) ?_ (by first | omega | (simp; done) | (simp; omega))) | exact Below.refl _ _)
  go_enter Tryz.func78, Tryz.ntmps78
  go_upto_region 8 with (first | (go_at_call 102; refine ( hl.out _).mono ?_; rintro e w1 ⟨rfl, hb⟩; obtain ⟨hc, hfz⟩ := bcell hb; have hz := hb.size; (try simp at hz); (try have hz0 : w.heap.size < w1.heap.size := by omega); (try have hz1 : w.heap.size + 1 < w1.heap.size := by omega); (try have hz2 : w.heap.size + 2 < w1.heap.size := by omega); (try have hz3 : w.heap.size + 3 < w1.heap.size := by omega); (try have hcA := fun o => hc w.heap.size o (by first | omega | (simp; omega))); (try have hcB := fun o => hc (w.heap.size + 1) o (by first | omega | (simp; omega))); (try have hcGgA := fun o => hc gA o (by first | omega | (simp; omega))); (try have hfGgA := fun o => hfz gA o (by first | omega | (simp; omega))); (try have hzGgA : gA < w1.heap.size := by omega)) | (go_at_call 103; refine ( hsc.out _).mono ?_; rintro e w1 ⟨rfl, rfl⟩))
  generalize hW0 : World.alloc w1 _ = W0
  have hw0 : Below w.heap.size w W0 := by rw [← hW0]; (repeat' first | (with_reducible exact Below.refl _ _) | (with_reducible refine Below.setCell ?_ (by first | omega | (simp; done) | (simp; omega)) _) | (with_reducible refine Below.alloc ?_ (by first | omega | (simp; done) | (simp; omega)) _) | refine below_drewN ?_ _ | refine Below.drew ?_ | (refine below_thru (by assumption) ?_ (by first | omega | (simp; done) | (simp; omega))) | exact Below.refl _ _)
  have hB1 : Blk W0 w.heap.size 107 #[.int .i64 0, .string ⟨#[]⟩, .string ⟨#[]⟩, .int .i64 0] := by rw [← hW0]; exact Blk.alloc ((Blk.new w _ _).below hb (by simp)) _
  have hB2 : Blk W0 w1.heap.size 107 #[.int .i64 4, .string ⟨#[]⟩, .string ⟨#[]⟩, .int .i64 (-1)] := by rw [← hW0]; exact Blk.new _ _ _
  have hgt : w.heap.size < w1.heap.size := by omega
  clear hW0
  generalize w1.heap.size = gA at *
  have a1 := hB1.lt
  have a2 := hB1.cell
  have a3 := hB1.frozen
  have d1 := hB2.lt
  have d2 := hB2.cell
  have d3 := hB2.frozen
  go_cut [36] from 11 (fun c w' => c = .bool false ∧ w' = W0)
  case first =>
    by_cases h0 : 0 < n
    · by_cases h5 : n + 1 = s.length
      · have hnl : n < s.length := by omega
        have hsn : s[n] ≠ 58 := fun h => h3 ⟨h0, by rw [drop_cons hnl, List.drop_eq_nil_of_le (by omega), h]⟩
        have h3b : ((n : Int) == (s.length : Int) - 1) = true := by simp; omega
        have h3d : ((s[n].toNat : Int) == 58) = false := by
          rw [beq_eq_false_iff_ne]; intro h; exact hsn (UInt8.toNat_inj.1 (by simp; omega))
        replace h5 := Lib.hid h5
        clear h3 hsn
        go_wp2_with fail
        go_meet
        case rel => exact ⟨rfl, rfl⟩
      · have h3b : ((n : Int) == (s.length : Int) - 1) = false := by rw [beq_eq_false_iff_ne]; omega
        clear h3
        go_wp2_with fail
        go_meet
        case rel => exact ⟨rfl, rfl⟩
    · clear h3
      go_wp2_with fail
      go_meet
      case rel => exact ⟨rfl, rfl⟩
  case rest =>
    obtain ⟨rfl, hwc⟩ := hcut
    subst hwc
    go_upto_region 10 with fail
    go_cut [57] from 11 (fun c w' => c = .bool (decide (0 < n) && ([58, 47, 47] : List UInt8).isPrefixOf (s.drop n)) ∧ w' = wc)
    case first =>
      by_cases h0 : 0 < n
      · by_cases h5 : n + 3 ≤ s.length
        · have e3 : n + 3 - n = 3 := by omega
          replace e3 := Lib.hid e3
          cases hq : ((s.drop n).take 3 == [58, 47, 47])
          all_goals
            have hqq : ((s.drop n).take (n + 3 - n) == [58, 47, 47]) = ((s.drop n).take 3 == [58, 47, 47]) := by rw [e3.out]
            rw [hq] at hqq
            have hf : Hid ((decide (0 < n) && ([58, 47, 47] : List UInt8).isPrefixOf (s.drop n)) = ((s.drop n).take 3 == [58, 47, 47])) := Lib.hid (by rw [decide_eq_true h0, Bool.true_and, prefix_take]; rfl)
            replace hf := Lib.hid (hf.out.trans hq)
            clear h3
            go_wp2_with fail
            go_meet
            case rel => exact ⟨by rw [hf.out] <;> rfl, rfl⟩
        · have hf : Hid ((decide (0 < n) && ([58, 47, 47] : List UInt8).isPrefixOf (s.drop n)) = false) := Lib.hid (by
            rw [decide_eq_true h0, Bool.true_and, prefix_take, beq_eq_false_iff_ne]
            intro h
            have := congrArg List.length h
            simp at this
            omega)
          clear h3
          go_wp2_with fail
          go_meet
          case rel => exact ⟨by rw [hf.out] <;> rfl, rfl⟩
      · have hf : Hid ((decide (0 < n) && ([58, 47, 47] : List UInt8).isPrefixOf (s.drop n)) = false) := Lib.hid (by rw [decide_eq_false h0, Bool.false_and])
        clear h3
        go_wp2_with fail
        go_meet
        case rel => exact ⟨by rw [hf.out] <;> rfl, rfl⟩
    case rest =>
      obtain ⟨hx, hwc⟩ := hcut
      subst hx hwc
      have hst : (decide (0 < n) && ([58, 47, 47] : List UInt8).isPrefixOf (s.drop n)) = true ∧ R = Gl.sourceHost (s.take n) (s.drop (n + 3)) ∧ 0 < n ∧ n + 3 ≤ s.length ∨ (decide (0 < n) && ([58, 47, 47] : List UInt8).isPrefixOf (s.drop n)) = false ∧ R = Gl.sourceHost [] s := by
        rw [hR]
        unfold Gl.sourceOf1
        rw [if_neg h3]
        by_cases h : 0 < n ∧ ([58, 47, 47] : List UInt8).isPrefixOf (s.drop n) = true
        · left
          rw [if_pos h, List.drop_drop]
          obtain ⟨t, ht⟩ := List.isPrefixOf_iff_prefix.1 h.2
          have hl := congrArg List.length ht
          simp at hl
          exact ⟨by simp [h.1, h.2], rfl, h.1, by omega⟩
        · right
          rw [if_neg h]
          refine ⟨?_, rfl⟩
          cases hd : decide (0 < n)
          · rfl
          · have h0 : 0 < n := by simpa using hd
            simp only [Bool.true_and]
            exact Bool.eq_false_iff.2 (fun hp => h ⟨h0, hp⟩)
      clear hR h3
      rcases hst with ⟨hq, hR, h0, hn3⟩ | ⟨hq, hR⟩
      all_goals rw [hq]
      · skip
        have htl : (s.drop (n + 3)).length ≤ 4294967280 := by first | exact hlb | (simp; omega)
        generalize hte : s.drop (n + 3) = t at *
        have hRr := hR
        unfold Gl.sourceHost at hRr
        have hl1 := span_len [47] t
        have hk1 : ∀ W, Calls Tryz.prog 104 #[(Value.string ⟨(t).toArray⟩), .int .u8 47] W (Ret W (.tuple #[(Value.string ⟨((Gl.span [47] t).1).toArray⟩), (Value.string ⟨((Gl.span [47] t).2.drop 1).toArray⟩), .bool (!(Gl.span [47] t).2.isEmpty)])) := fun W => ref11_cut t 47 W (by omega)
        generalize Gl.span [47] t = ab at *
        obtain ⟨a, b⟩ := ab
        simp only at hRr hl1 hk1
        have hl2 := span_len [58] a
        have hk2 : ∀ W, Calls Tryz.prog 104 #[(Value.string ⟨(a).toArray⟩), .int .u8 58] W (Ret W (.tuple #[(Value.string ⟨((Gl.span [58] a).1).toArray⟩), (Value.string ⟨((Gl.span [58] a).2.drop 1).toArray⟩), .bool (!(Gl.span [58] a).2.isEmpty)])) := fun W => ref11_cut a 58 W (by omega)
        generalize Gl.span [58] a = np at *
        obtain ⟨nm, p⟩ := np
        simp only [List.drop_one] at hRr hl2 hk1 hk2
        have hpat := fun W => ref11_pattern nm W (by omega)
        generalize Gl.pattern nm = pa at *
        have hpt : p = [] → p.tail = [] := fun h => by rw [h]; rfl
        have hnm := fun W => ref1_number p.tail 65535 W (by rw [List.length_tail]; omega) (by omega) (by omega)
        have hpe : (p = []) = (p.isEmpty = true) := by simp
        simp only [hpe] at hRr hpt
        generalize p.isEmpty = em at *
        generalize p.tail = q at *
        generalize Gl.number q 65535 = nu at *
        clear hR hpe hl hsc
        replace hk1 := Lib.hid hk1
        replace hk2 := Lib.hid hk2
        replace hpat := Lib.hid hpat
        replace hnm := Lib.hid hnm
        replace hl1 := Lib.hid hl1
        replace hl2 := Lib.hid hl2
        cases pa with
        | false =>
          rw [if_pos rfl] at hRr
          clear hpt
          subst hRr
          go_wp2_with (first | (go_at_call 104; refine ( hk1.out _).mono ?_; rintro e w1 ⟨rfl, hb⟩; obtain ⟨hc, hfz⟩ := bcell hb; have hz := hb.size; (try simp at hz); (try have hz0 : w.heap.size < w1.heap.size := by omega); (try have hz1 : w.heap.size + 1 < w1.heap.size := by omega); (try have hz2 : w.heap.size + 2 < w1.heap.size := by omega); (try have hz3 : w.heap.size + 3 < w1.heap.size := by omega); (try have hcA := fun o => hc w.heap.size o (by first | omega | (simp; omega))); (try have hcB := fun o => hc (w.heap.size + 1) o (by first | omega | (simp; omega))); (try have hcGgA := fun o => hc gA o (by first | omega | (simp; omega))); (try have hfGgA := fun o => hfz gA o (by first | omega | (simp; omega))); (try have hzGgA : gA < w1.heap.size := by omega)) | (go_at_call 104; refine ( hk2.out _).mono ?_; rintro e w1 ⟨rfl, hb⟩; obtain ⟨hc, hfz⟩ := bcell hb; have hz := hb.size; (try simp at hz); (try have hz0 : w.heap.size < w1.heap.size := by omega); (try have hz1 : w.heap.size + 1 < w1.heap.size := by omega); (try have hz2 : w.heap.size + 2 < w1.heap.size := by omega); (try have hz3 : w.heap.size + 3 < w1.heap.size := by omega); (try have hcA := fun o => hc w.heap.size o (by first | omega | (simp; omega))); (try have hcB := fun o => hc (w.heap.size + 1) o (by first | omega | (simp; omega))); (try have hcGgA := fun o => hc gA o (by first | omega | (simp; omega))); (try have hfGgA := fun o => hfz gA o (by first | omega | (simp; omega))); (try have hzGgA : gA < w1.heap.size := by omega)) | (go_at_call 106; refine ( hnm.out _).mono ?_; rintro e w1 ⟨rfl, rfl⟩) | (go_at_call 105; refine ( hpat.out _).mono ?_; rintro e w1 ⟨rfl, hb⟩; obtain ⟨hc, hfz⟩ := bcell hb; have hz := hb.size; (try simp at hz); (try have hz0 : w.heap.size < w1.heap.size := by omega); (try have hz1 : w.heap.size + 1 < w1.heap.size := by omega); (try have hz2 : w.heap.size + 2 < w1.heap.size := by omega); (try have hz3 : w.heap.size + 3 < w1.heap.size := by omega); (try have hcA := fun o => hc w.heap.size o (by first | omega | (simp; omega))); (try have hcB := fun o => hc (w.heap.size + 1) o (by first | omega | (simp; omega))); (try have hcGgA := fun o => hc gA o (by first | omega | (simp; omega))); (try have hfGgA := fun o => hfz gA o (by first | omega | (simp; omega))); (try have hzGgA : gA < w1.heap.size := by omega)))
          refine bodyPost_ret (v := (.agg #[.int .i64 0, .string ⟨#[]⟩, .string ⟨#[]⟩, .int .i64 0])) (by simp only [results, Tryz.results78]; go_simp) rfl ?_
          exact ⟨rfl, by (repeat' first | (with_reducible exact Below.refl _ _) | (with_reducible refine Below.setCell ?_ (by first | omega | (simp; done) | (simp; omega)) _) | (with_reducible refine Below.alloc ?_ (by first | omega | (simp; done) | (simp; omega)) _) | refine below_drewN ?_ _ | refine Below.drew ?_ | (refine below_thru (by assumption) ?_ (by first | omega | (simp; done) | (simp; omega))) | exact Below.refl _ _)⟩
        | true =>
          rw [if_neg (by simp)] at hRr
          cases em with
          | true =>
            rw [if_pos rfl] at hRr
            clear hpt
            subst hRr
            go_wp2_with (first | (go_at_call 104; refine ( hk1.out _).mono ?_; rintro e w1 ⟨rfl, hb⟩; obtain ⟨hc, hfz⟩ := bcell hb; have hz := hb.size; (try simp at hz); (try have hz0 : w.heap.size < w1.heap.size := by omega); (try have hz1 : w.heap.size + 1 < w1.heap.size := by omega); (try have hz2 : w.heap.size + 2 < w1.heap.size := by omega); (try have hz3 : w.heap.size + 3 < w1.heap.size := by omega); (try have hcA := fun o => hc w.heap.size o (by first | omega | (simp; omega))); (try have hcB := fun o => hc (w.heap.size + 1) o (by first | omega | (simp; omega))); (try have hcGgA := fun o => hc gA o (by first | omega | (simp; omega))); (try have hfGgA := fun o => hfz gA o (by first | omega | (simp; omega))); (try have hzGgA : gA < w1.heap.size := by omega)) | (go_at_call 104; refine ( hk2.out _).mono ?_; rintro e w1 ⟨rfl, hb⟩; obtain ⟨hc, hfz⟩ := bcell hb; have hz := hb.size; (try simp at hz); (try have hz0 : w.heap.size < w1.heap.size := by omega); (try have hz1 : w.heap.size + 1 < w1.heap.size := by omega); (try have hz2 : w.heap.size + 2 < w1.heap.size := by omega); (try have hz3 : w.heap.size + 3 < w1.heap.size := by omega); (try have hcA := fun o => hc w.heap.size o (by first | omega | (simp; omega))); (try have hcB := fun o => hc (w.heap.size + 1) o (by first | omega | (simp; omega))); (try have hcGgA := fun o => hc gA o (by first | omega | (simp; omega))); (try have hfGgA := fun o => hfz gA o (by first | omega | (simp; omega))); (try have hzGgA : gA < w1.heap.size := by omega)) | (go_at_call 106; refine ( hnm.out _).mono ?_; rintro e w1 ⟨rfl, rfl⟩) | (go_at_call 105; refine ( hpat.out _).mono ?_; rintro e w1 ⟨rfl, hb⟩; obtain ⟨hc, hfz⟩ := bcell hb; have hz := hb.size; (try simp at hz); (try have hz0 : w.heap.size < w1.heap.size := by omega); (try have hz1 : w.heap.size + 1 < w1.heap.size := by omega); (try have hz2 : w.heap.size + 2 < w1.heap.size := by omega); (try have hz3 : w.heap.size + 3 < w1.heap.size := by omega); (try have hcA := fun o => hc w.heap.size o (by first | omega | (simp; omega))); (try have hcB := fun o => hc (w.heap.size + 1) o (by first | omega | (simp; omega))); (try have hcGgA := fun o => hc gA o (by first | omega | (simp; omega))); (try have hfGgA := fun o => hfz gA o (by first | omega | (simp; omega))); (try have hzGgA : gA < w1.heap.size := by omega)))
            refine bodyPost_ret (v := (.agg #[.int .i64 4, (Value.string ⟨(s.take n).toArray⟩), (Value.string ⟨(nm).toArray⟩), .int .i64 (-1)])) (by simp only [results, Tryz.results78]; go_simp) rfl ?_
            exact ⟨rfl, by (repeat' first | (with_reducible exact Below.refl _ _) | (with_reducible refine Below.setCell ?_ (by first | omega | (simp; done) | (simp; omega)) _) | (with_reducible refine Below.alloc ?_ (by first | omega | (simp; done) | (simp; omega)) _) | refine below_drewN ?_ _ | refine Below.drew ?_ | (refine below_thru (by assumption) ?_ (by first | omega | (simp; done) | (simp; omega))) | exact Below.refl _ _)⟩
          | false =>
            rw [if_neg (by simp)] at hRr
            clear hpt
            by_cases hq4 : q = [42]
            · rw [if_pos hq4] at hRr
              have hqb : (q == [42]) = true := by rw [hq4]; rfl
              clear hq4
              subst hRr
              go_wp2_with (first | (go_at_call 104; refine ( hk1.out _).mono ?_; rintro e w1 ⟨rfl, hb⟩; obtain ⟨hc, hfz⟩ := bcell hb; have hz := hb.size; (try simp at hz); (try have hz0 : w.heap.size < w1.heap.size := by omega); (try have hz1 : w.heap.size + 1 < w1.heap.size := by omega); (try have hz2 : w.heap.size + 2 < w1.heap.size := by omega); (try have hz3 : w.heap.size + 3 < w1.heap.size := by omega); (try have hcA := fun o => hc w.heap.size o (by first | omega | (simp; omega))); (try have hcB := fun o => hc (w.heap.size + 1) o (by first | omega | (simp; omega))); (try have hcGgA := fun o => hc gA o (by first | omega | (simp; omega))); (try have hfGgA := fun o => hfz gA o (by first | omega | (simp; omega))); (try have hzGgA : gA < w1.heap.size := by omega)) | (go_at_call 104; refine ( hk2.out _).mono ?_; rintro e w1 ⟨rfl, hb⟩; obtain ⟨hc, hfz⟩ := bcell hb; have hz := hb.size; (try simp at hz); (try have hz0 : w.heap.size < w1.heap.size := by omega); (try have hz1 : w.heap.size + 1 < w1.heap.size := by omega); (try have hz2 : w.heap.size + 2 < w1.heap.size := by omega); (try have hz3 : w.heap.size + 3 < w1.heap.size := by omega); (try have hcA := fun o => hc w.heap.size o (by first | omega | (simp; omega))); (try have hcB := fun o => hc (w.heap.size + 1) o (by first | omega | (simp; omega))); (try have hcGgA := fun o => hc gA o (by first | omega | (simp; omega))); (try have hfGgA := fun o => hfz gA o (by first | omega | (simp; omega))); (try have hzGgA : gA < w1.heap.size := by omega)) | (go_at_call 106; refine ( hnm.out _).mono ?_; rintro e w1 ⟨rfl, rfl⟩) | (go_at_call 105; refine ( hpat.out _).mono ?_; rintro e w1 ⟨rfl, hb⟩; obtain ⟨hc, hfz⟩ := bcell hb; have hz := hb.size; (try simp at hz); (try have hz0 : w.heap.size < w1.heap.size := by omega); (try have hz1 : w.heap.size + 1 < w1.heap.size := by omega); (try have hz2 : w.heap.size + 2 < w1.heap.size := by omega); (try have hz3 : w.heap.size + 3 < w1.heap.size := by omega); (try have hcA := fun o => hc w.heap.size o (by first | omega | (simp; omega))); (try have hcB := fun o => hc (w.heap.size + 1) o (by first | omega | (simp; omega))); (try have hcGgA := fun o => hc gA o (by first | omega | (simp; omega))); (try have hfGgA := fun o => hfz gA o (by first | omega | (simp; omega))); (try have hzGgA : gA < w1.heap.size := by omega)))
              refine bodyPost_ret (v := (.agg #[.int .i64 4, (Value.string ⟨(s.take n).toArray⟩), (Value.string ⟨(nm).toArray⟩), .int .i64 (-2)])) (by simp only [results, Tryz.results78]; go_simp) rfl ?_
              exact ⟨rfl, by (repeat' first | (with_reducible exact Below.refl _ _) | (with_reducible refine Below.setCell ?_ (by first | omega | (simp; done) | (simp; omega)) _) | (with_reducible refine Below.alloc ?_ (by first | omega | (simp; done) | (simp; omega)) _) | refine below_drewN ?_ _ | refine Below.drew ?_ | (refine below_thru (by assumption) ?_ (by first | omega | (simp; done) | (simp; omega))) | exact Below.refl _ _)⟩
            · rw [if_neg hq4] at hRr
              have hqb : (q == [42]) = false := by rw [beq_eq_false_iff_ne]; exact hq4
              clear hq4
              cases nu with
              | none =>
                subst hRr
                go_wp2_with (first | (go_at_call 104; refine ( hk1.out _).mono ?_; rintro e w1 ⟨rfl, hb⟩; obtain ⟨hc, hfz⟩ := bcell hb; have hz := hb.size; (try simp at hz); (try have hz0 : w.heap.size < w1.heap.size := by omega); (try have hz1 : w.heap.size + 1 < w1.heap.size := by omega); (try have hz2 : w.heap.size + 2 < w1.heap.size := by omega); (try have hz3 : w.heap.size + 3 < w1.heap.size := by omega); (try have hcA := fun o => hc w.heap.size o (by first | omega | (simp; omega))); (try have hcB := fun o => hc (w.heap.size + 1) o (by first | omega | (simp; omega))); (try have hcGgA := fun o => hc gA o (by first | omega | (simp; omega))); (try have hfGgA := fun o => hfz gA o (by first | omega | (simp; omega))); (try have hzGgA : gA < w1.heap.size := by omega)) | (go_at_call 104; refine ( hk2.out _).mono ?_; rintro e w1 ⟨rfl, hb⟩; obtain ⟨hc, hfz⟩ := bcell hb; have hz := hb.size; (try simp at hz); (try have hz0 : w.heap.size < w1.heap.size := by omega); (try have hz1 : w.heap.size + 1 < w1.heap.size := by omega); (try have hz2 : w.heap.size + 2 < w1.heap.size := by omega); (try have hz3 : w.heap.size + 3 < w1.heap.size := by omega); (try have hcA := fun o => hc w.heap.size o (by first | omega | (simp; omega))); (try have hcB := fun o => hc (w.heap.size + 1) o (by first | omega | (simp; omega))); (try have hcGgA := fun o => hc gA o (by first | omega | (simp; omega))); (try have hfGgA := fun o => hfz gA o (by first | omega | (simp; omega))); (try have hzGgA : gA < w1.heap.size := by omega)) | (go_at_call 106; refine ( hnm.out _).mono ?_; rintro e w1 ⟨rfl, rfl⟩) | (go_at_call 105; refine ( hpat.out _).mono ?_; rintro e w1 ⟨rfl, hb⟩; obtain ⟨hc, hfz⟩ := bcell hb; have hz := hb.size; (try simp at hz); (try have hz0 : w.heap.size < w1.heap.size := by omega); (try have hz1 : w.heap.size + 1 < w1.heap.size := by omega); (try have hz2 : w.heap.size + 2 < w1.heap.size := by omega); (try have hz3 : w.heap.size + 3 < w1.heap.size := by omega); (try have hcA := fun o => hc w.heap.size o (by first | omega | (simp; omega))); (try have hcB := fun o => hc (w.heap.size + 1) o (by first | omega | (simp; omega))); (try have hcGgA := fun o => hc gA o (by first | omega | (simp; omega))); (try have hfGgA := fun o => hfz gA o (by first | omega | (simp; omega))); (try have hzGgA : gA < w1.heap.size := by omega)))
                refine bodyPost_ret (v := (.agg #[.int .i64 0, .string ⟨#[]⟩, .string ⟨#[]⟩, .int .i64 0])) (by simp only [results, Tryz.results78]; go_simp) rfl ?_
                exact ⟨rfl, by (repeat' first | (with_reducible exact Below.refl _ _) | (with_reducible refine Below.setCell ?_ (by first | omega | (simp; done) | (simp; omega)) _) | (with_reducible refine Below.alloc ?_ (by first | omega | (simp; done) | (simp; omega)) _) | refine below_drewN ?_ _ | refine Below.drew ?_ | (refine below_thru (by assumption) ?_ (by first | omega | (simp; done) | (simp; omega))) | exact Below.refl _ _)⟩
              | some n5 =>
                subst hRr
                go_wp2_with (first | (go_at_call 104; refine ( hk1.out _).mono ?_; rintro e w1 ⟨rfl, hb⟩; obtain ⟨hc, hfz⟩ := bcell hb; have hz := hb.size; (try simp at hz); (try have hz0 : w.heap.size < w1.heap.size := by omega); (try have hz1 : w.heap.size + 1 < w1.heap.size := by omega); (try have hz2 : w.heap.size + 2 < w1.heap.size := by omega); (try have hz3 : w.heap.size + 3 < w1.heap.size := by omega); (try have hcA := fun o => hc w.heap.size o (by first | omega | (simp; omega))); (try have hcB := fun o => hc (w.heap.size + 1) o (by first | omega | (simp; omega))); (try have hcGgA := fun o => hc gA o (by first | omega | (simp; omega))); (try have hfGgA := fun o => hfz gA o (by first | omega | (simp; omega))); (try have hzGgA : gA < w1.heap.size := by omega)) | (go_at_call 104; refine ( hk2.out _).mono ?_; rintro e w1 ⟨rfl, hb⟩; obtain ⟨hc, hfz⟩ := bcell hb; have hz := hb.size; (try simp at hz); (try have hz0 : w.heap.size < w1.heap.size := by omega); (try have hz1 : w.heap.size + 1 < w1.heap.size := by omega); (try have hz2 : w.heap.size + 2 < w1.heap.size := by omega); (try have hz3 : w.heap.size + 3 < w1.heap.size := by omega); (try have hcA := fun o => hc w.heap.size o (by first | omega | (simp; omega))); (try have hcB := fun o => hc (w.heap.size + 1) o (by first | omega | (simp; omega))); (try have hcGgA := fun o => hc gA o (by first | omega | (simp; omega))); (try have hfGgA := fun o => hfz gA o (by first | omega | (simp; omega))); (try have hzGgA : gA < w1.heap.size := by omega)) | (go_at_call 106; refine ( hnm.out _).mono ?_; rintro e w1 ⟨rfl, rfl⟩) | (go_at_call 105; refine ( hpat.out _).mono ?_; rintro e w1 ⟨rfl, hb⟩; obtain ⟨hc, hfz⟩ := bcell hb; have hz := hb.size; (try simp at hz); (try have hz0 : w.heap.size < w1.heap.size := by omega); (try have hz1 : w.heap.size + 1 < w1.heap.size := by omega); (try have hz2 : w.heap.size + 2 < w1.heap.size := by omega); (try have hz3 : w.heap.size + 3 < w1.heap.size := by omega); (try have hcA := fun o => hc w.heap.size o (by first | omega | (simp; omega))); (try have hcB := fun o => hc (w.heap.size + 1) o (by first | omega | (simp; omega))); (try have hcGgA := fun o => hc gA o (by first | omega | (simp; omega))); (try have hfGgA := fun o => hfz gA o (by first | omega | (simp; omega))); (try have hzGgA : gA < w1.heap.size := by omega)))
                refine bodyPost_ret (v := (.agg #[.int .i64 4, (Value.string ⟨(s.take n).toArray⟩), (Value.string ⟨(nm).toArray⟩), .int .i64 (n5)])) (by simp only [results, Tryz.results78]; go_simp) rfl ?_
                exact ⟨rfl, by (repeat' first | (with_reducible exact Below.refl _ _) | (with_reducible refine Below.setCell ?_ (by first | omega | (simp; done) | (simp; omega)) _) | (with_reducible refine Below.alloc ?_ (by first | omega | (simp; done) | (simp; omega)) _) | refine below_drewN ?_ _ | refine Below.drew ?_ | (refine below_thru (by assumption) ?_ (by first | omega | (simp; done) | (simp; omega))) | exact Below.refl _ _)⟩
      · skip
        have htl : (s).length ≤ 4294967280 := by first | exact hlb | (simp; omega)
        generalize hte : s = t at *
        have hRr := hR
        unfold Gl.sourceHost at hRr
        have hl1 := span_len [47] t
        have hk1 : ∀ W, Calls Tryz.prog 104 #[(Value.string ⟨(t).toArray⟩), .int .u8 47] W (Ret W (.tuple #[(Value.string ⟨((Gl.span [47] t).1).toArray⟩), (Value.string ⟨((Gl.span [47] t).2.drop 1).toArray⟩), .bool (!(Gl.span [47] t).2.isEmpty)])) := fun W => ref11_cut t 47 W (by omega)
        generalize Gl.span [47] t = ab at *
        obtain ⟨a, b⟩ := ab
        simp only at hRr hl1 hk1
        have hl2 := span_len [58] a
        have hk2 : ∀ W, Calls Tryz.prog 104 #[(Value.string ⟨(a).toArray⟩), .int .u8 58] W (Ret W (.tuple #[(Value.string ⟨((Gl.span [58] a).1).toArray⟩), (Value.string ⟨((Gl.span [58] a).2.drop 1).toArray⟩), .bool (!(Gl.span [58] a).2.isEmpty)])) := fun W => ref11_cut a 58 W (by omega)
        generalize Gl.span [58] a = np at *
        obtain ⟨nm, p⟩ := np
        simp only [List.drop_one] at hRr hl2 hk1 hk2
        have hpat := fun W => ref11_pattern nm W (by omega)
        generalize Gl.pattern nm = pa at *
        have hpt : p = [] → p.tail = [] := fun h => by rw [h]; rfl
        have hnm := fun W => ref1_number p.tail 65535 W (by rw [List.length_tail]; omega) (by omega) (by omega)
        have hpe : (p = []) = (p.isEmpty = true) := by simp
        simp only [hpe] at hRr hpt
        generalize p.isEmpty = em at *
        generalize p.tail = q at *
        generalize Gl.number q 65535 = nu at *
        clear hR hpe hl hsc
        replace hk1 := Lib.hid hk1
        replace hk2 := Lib.hid hk2
        replace hpat := Lib.hid hpat
        replace hnm := Lib.hid hnm
        replace hl1 := Lib.hid hl1
        replace hl2 := Lib.hid hl2
        replace hte := Lib.hid hte
        cases pa with
        | false =>
          rw [if_pos rfl] at hRr
          clear hpt
          subst hRr
          go_wp2_with (first | (go_at_call 104; refine ( hk1.out _).mono ?_; rintro e w1 ⟨rfl, hb⟩; obtain ⟨hc, hfz⟩ := bcell hb; have hz := hb.size; (try simp at hz); (try have hz0 : w.heap.size < w1.heap.size := by omega); (try have hz1 : w.heap.size + 1 < w1.heap.size := by omega); (try have hz2 : w.heap.size + 2 < w1.heap.size := by omega); (try have hz3 : w.heap.size + 3 < w1.heap.size := by omega); (try have hcA := fun o => hc w.heap.size o (by first | omega | (simp; omega))); (try have hcB := fun o => hc (w.heap.size + 1) o (by first | omega | (simp; omega))); (try have hcGgA := fun o => hc gA o (by first | omega | (simp; omega))); (try have hfGgA := fun o => hfz gA o (by first | omega | (simp; omega))); (try have hzGgA : gA < w1.heap.size := by omega)) | (go_at_call 104; refine ( hk2.out _).mono ?_; rintro e w1 ⟨rfl, hb⟩; obtain ⟨hc, hfz⟩ := bcell hb; have hz := hb.size; (try simp at hz); (try have hz0 : w.heap.size < w1.heap.size := by omega); (try have hz1 : w.heap.size + 1 < w1.heap.size := by omega); (try have hz2 : w.heap.size + 2 < w1.heap.size := by omega); (try have hz3 : w.heap.size + 3 < w1.heap.size := by omega); (try have hcA := fun o => hc w.heap.size o (by first | omega | (simp; omega))); (try have hcB := fun o => hc (w.heap.size + 1) o (by first | omega | (simp; omega))); (try have hcGgA := fun o => hc gA o (by first | omega | (simp; omega))); (try have hfGgA := fun o => hfz gA o (by first | omega | (simp; omega))); (try have hzGgA : gA < w1.heap.size := by omega)) | (go_at_call 106; refine ( hnm.out _).mono ?_; rintro e w1 ⟨rfl, rfl⟩) | (go_at_call 105; refine ( hpat.out _).mono ?_; rintro e w1 ⟨rfl, hb⟩; obtain ⟨hc, hfz⟩ := bcell hb; have hz := hb.size; (try simp at hz); (try have hz0 : w.heap.size < w1.heap.size := by omega); (try have hz1 : w.heap.size + 1 < w1.heap.size := by omega); (try have hz2 : w.heap.size + 2 < w1.heap.size := by omega); (try have hz3 : w.heap.size + 3 < w1.heap.size := by omega); (try have hcA := fun o => hc w.heap.size o (by first | omega | (simp; omega))); (try have hcB := fun o => hc (w.heap.size + 1) o (by first | omega | (simp; omega))); (try have hcGgA := fun o => hc gA o (by first | omega | (simp; omega))); (try have hfGgA := fun o => hfz gA o (by first | omega | (simp; omega))); (try have hzGgA : gA < w1.heap.size := by omega)))
          refine bodyPost_ret (v := (.agg #[.int .i64 0, .string ⟨#[]⟩, .string ⟨#[]⟩, .int .i64 0])) (by simp only [results, Tryz.results78]; go_simp) rfl ?_
          exact ⟨rfl, by (repeat' first | (with_reducible exact Below.refl _ _) | (with_reducible refine Below.setCell ?_ (by first | omega | (simp; done) | (simp; omega)) _) | (with_reducible refine Below.alloc ?_ (by first | omega | (simp; done) | (simp; omega)) _) | refine below_drewN ?_ _ | refine Below.drew ?_ | (refine below_thru (by assumption) ?_ (by first | omega | (simp; done) | (simp; omega))) | exact Below.refl _ _)⟩
        | true =>
          rw [if_neg (by simp)] at hRr
          cases em with
          | true =>
            rw [if_pos rfl] at hRr
            clear hpt
            subst hRr
            go_wp2_with (first | (go_at_call 104; refine ( hk1.out _).mono ?_; rintro e w1 ⟨rfl, hb⟩; obtain ⟨hc, hfz⟩ := bcell hb; have hz := hb.size; (try simp at hz); (try have hz0 : w.heap.size < w1.heap.size := by omega); (try have hz1 : w.heap.size + 1 < w1.heap.size := by omega); (try have hz2 : w.heap.size + 2 < w1.heap.size := by omega); (try have hz3 : w.heap.size + 3 < w1.heap.size := by omega); (try have hcA := fun o => hc w.heap.size o (by first | omega | (simp; omega))); (try have hcB := fun o => hc (w.heap.size + 1) o (by first | omega | (simp; omega))); (try have hcGgA := fun o => hc gA o (by first | omega | (simp; omega))); (try have hfGgA := fun o => hfz gA o (by first | omega | (simp; omega))); (try have hzGgA : gA < w1.heap.size := by omega)) | (go_at_call 104; refine ( hk2.out _).mono ?_; rintro e w1 ⟨rfl, hb⟩; obtain ⟨hc, hfz⟩ := bcell hb; have hz := hb.size; (try simp at hz); (try have hz0 : w.heap.size < w1.heap.size := by omega); (try have hz1 : w.heap.size + 1 < w1.heap.size := by omega); (try have hz2 : w.heap.size + 2 < w1.heap.size := by omega); (try have hz3 : w.heap.size + 3 < w1.heap.size := by omega); (try have hcA := fun o => hc w.heap.size o (by first | omega | (simp; omega))); (try have hcB := fun o => hc (w.heap.size + 1) o (by first | omega | (simp; omega))); (try have hcGgA := fun o => hc gA o (by first | omega | (simp; omega))); (try have hfGgA := fun o => hfz gA o (by first | omega | (simp; omega))); (try have hzGgA : gA < w1.heap.size := by omega)) | (go_at_call 106; refine ( hnm.out _).mono ?_; rintro e w1 ⟨rfl, rfl⟩) | (go_at_call 105; refine ( hpat.out _).mono ?_; rintro e w1 ⟨rfl, hb⟩; obtain ⟨hc, hfz⟩ := bcell hb; have hz := hb.size; (try simp at hz); (try have hz0 : w.heap.size < w1.heap.size := by omega); (try have hz1 : w.heap.size + 1 < w1.heap.size := by omega); (try have hz2 : w.heap.size + 2 < w1.heap.size := by omega); (try have hz3 : w.heap.size + 3 < w1.heap.size := by omega); (try have hcA := fun o => hc w.heap.size o (by first | omega | (simp; omega))); (try have hcB := fun o => hc (w.heap.size + 1) o (by first | omega | (simp; omega))); (try have hcGgA := fun o => hc gA o (by first | omega | (simp; omega))); (try have hfGgA := fun o => hfz gA o (by first | omega | (simp; omega))); (try have hzGgA : gA < w1.heap.size := by omega)))
            refine bodyPost_ret (v := (.agg #[.int .i64 4, (Value.string ⟨([]).toArray⟩), (Value.string ⟨(nm).toArray⟩), .int .i64 (-1)])) (by simp only [results, Tryz.results78]; go_simp) rfl ?_
            exact ⟨rfl, by (repeat' first | (with_reducible exact Below.refl _ _) | (with_reducible refine Below.setCell ?_ (by first | omega | (simp; done) | (simp; omega)) _) | (with_reducible refine Below.alloc ?_ (by first | omega | (simp; done) | (simp; omega)) _) | refine below_drewN ?_ _ | refine Below.drew ?_ | (refine below_thru (by assumption) ?_ (by first | omega | (simp; done) | (simp; omega))) | exact Below.refl _ _)⟩
          | false =>
            rw [if_neg (by simp)] at hRr
            clear hpt
            by_cases hq4 : q = [42]
            · rw [if_pos hq4] at hRr
              have hqb : (q == [42]) = true := by rw [hq4]; rfl
              clear hq4
              subst hRr
              go_wp2_with (first | (go_at_call 104; refine ( hk1.out _).mono ?_; rintro e w1 ⟨rfl, hb⟩; obtain ⟨hc, hfz⟩ := bcell hb; have hz := hb.size; (try simp at hz); (try have hz0 : w.heap.size < w1.heap.size := by omega); (try have hz1 : w.heap.size + 1 < w1.heap.size := by omega); (try have hz2 : w.heap.size + 2 < w1.heap.size := by omega); (try have hz3 : w.heap.size + 3 < w1.heap.size := by omega); (try have hcA := fun o => hc w.heap.size o (by first | omega | (simp; omega))); (try have hcB := fun o => hc (w.heap.size + 1) o (by first | omega | (simp; omega))); (try have hcGgA := fun o => hc gA o (by first | omega | (simp; omega))); (try have hfGgA := fun o => hfz gA o (by first | omega | (simp; omega))); (try have hzGgA : gA < w1.heap.size := by omega)) | (go_at_call 104; refine ( hk2.out _).mono ?_; rintro e w1 ⟨rfl, hb⟩; obtain ⟨hc, hfz⟩ := bcell hb; have hz := hb.size; (try simp at hz); (try have hz0 : w.heap.size < w1.heap.size := by omega); (try have hz1 : w.heap.size + 1 < w1.heap.size := by omega); (try have hz2 : w.heap.size + 2 < w1.heap.size := by omega); (try have hz3 : w.heap.size + 3 < w1.heap.size := by omega); (try have hcA := fun o => hc w.heap.size o (by first | omega | (simp; omega))); (try have hcB := fun o => hc (w.heap.size + 1) o (by first | omega | (simp; omega))); (try have hcGgA := fun o => hc gA o (by first | omega | (simp; omega))); (try have hfGgA := fun o => hfz gA o (by first | omega | (simp; omega))); (try have hzGgA : gA < w1.heap.size := by omega)) | (go_at_call 106; refine ( hnm.out _).mono ?_; rintro e w1 ⟨rfl, rfl⟩) | (go_at_call 105; refine ( hpat.out _).mono ?_; rintro e w1 ⟨rfl, hb⟩; obtain ⟨hc, hfz⟩ := bcell hb; have hz := hb.size; (try simp at hz); (try have hz0 : w.heap.size < w1.heap.size := by omega); (try have hz1 : w.heap.size + 1 < w1.heap.size := by omega); (try have hz2 : w.heap.size + 2 < w1.heap.size := by omega); (try have hz3 : w.heap.size + 3 < w1.heap.size := by omega); (try have hcA := fun o => hc w.heap.size o (by first | omega | (simp; omega))); (try have hcB := fun o => hc (w.heap.size + 1) o (by first | omega | (simp; omega))); (try have hcGgA := fun o => hc gA o (by first | omega | (simp; omega))); (try have hfGgA := fun o => hfz gA o (by first | omega | (simp; omega))); (try have hzGgA : gA < w1.heap.size := by omega)))
              refine bodyPost_ret (v := (.agg #[.int .i64 4, (Value.string ⟨([]).toArray⟩), (Value.string ⟨(nm).toArray⟩), .int .i64 (-2)])) (by simp only [results, Tryz.results78]; go_simp) rfl ?_
              exact ⟨rfl, by (repeat' first | (with_reducible exact Below.refl _ _) | (with_reducible refine Below.setCell ?_ (by first | omega | (simp; done) | (simp; omega)) _) | (with_reducible refine Below.alloc ?_ (by first | omega | (simp; done) | (simp; omega)) _) | refine below_drewN ?_ _ | refine Below.drew ?_ | (refine below_thru (by assumption) ?_ (by first | omega | (simp; done) | (simp; omega))) | exact Below.refl _ _)⟩
            · rw [if_neg hq4] at hRr
              have hqb : (q == [42]) = false := by rw [beq_eq_false_iff_ne]; exact hq4
              clear hq4
              cases nu with
              | none =>
                subst hRr
                go_wp2_with (first | (go_at_call 104; refine ( hk1.out _).mono ?_; rintro e w1 ⟨rfl, hb⟩; obtain ⟨hc, hfz⟩ := bcell hb; have hz := hb.size; (try simp at hz); (try have hz0 : w.heap.size < w1.heap.size := by omega); (try have hz1 : w.heap.size + 1 < w1.heap.size := by omega); (try have hz2 : w.heap.size + 2 < w1.heap.size := by omega); (try have hz3 : w.heap.size + 3 < w1.heap.size := by omega); (try have hcA := fun o => hc w.heap.size o (by first | omega | (simp; omega))); (try have hcB := fun o => hc (w.heap.size + 1) o (by first | omega | (simp; omega))); (try have hcGgA := fun o => hc gA o (by first | omega | (simp; omega))); (try have hfGgA := fun o => hfz gA o (by first | omega | (simp; omega))); (try have hzGgA : gA < w1.heap.size := by omega)) | (go_at_call 104; refine ( hk2.out _).mono ?_; rintro e w1 ⟨rfl, hb⟩; obtain ⟨hc, hfz⟩ := bcell hb; have hz := hb.size; (try simp at hz); (try have hz0 : w.heap.size < w1.heap.size := by omega); (try have hz1 : w.heap.size + 1 < w1.heap.size := by omega); (try have hz2 : w.heap.size + 2 < w1.heap.size := by omega); (try have hz3 : w.heap.size + 3 < w1.heap.size := by omega); (try have hcA := fun o => hc w.heap.size o (by first | omega | (simp; omega))); (try have hcB := fun o => hc (w.heap.size + 1) o (by first | omega | (simp; omega))); (try have hcGgA := fun o => hc gA o (by first | omega | (simp; omega))); (try have hfGgA := fun o => hfz gA o (by first | omega | (simp; omega))); (try have hzGgA : gA < w1.heap.size := by omega)) | (go_at_call 106; refine ( hnm.out _).mono ?_; rintro e w1 ⟨rfl, rfl⟩) | (go_at_call 105; refine ( hpat.out _).mono ?_; rintro e w1 ⟨rfl, hb⟩; obtain ⟨hc, hfz⟩ := bcell hb; have hz := hb.size; (try simp at hz); (try have hz0 : w.heap.size < w1.heap.size := by omega); (try have hz1 : w.heap.size + 1 < w1.heap.size := by omega); (try have hz2 : w.heap.size + 2 < w1.heap.size := by omega); (try have hz3 : w.heap.size + 3 < w1.heap.size := by omega); (try have hcA := fun o => hc w.heap.size o (by first | omega | (simp; omega))); (try have hcB := fun o => hc (w.heap.size + 1) o (by first | omega | (simp; omega))); (try have hcGgA := fun o => hc gA o (by first | omega | (simp; omega))); (try have hfGgA := fun o => hfz gA o (by first | omega | (simp; omega))); (try have hzGgA : gA < w1.heap.size := by omega)))
                refine bodyPost_ret (v := (.agg #[.int .i64 0, .string ⟨#[]⟩, .string ⟨#[]⟩, .int .i64 0])) (by simp only [results, Tryz.results78]; go_simp) rfl ?_
                exact ⟨rfl, by (repeat' first | (with_reducible exact Below.refl _ _) | (with_reducible refine Below.setCell ?_ (by first | omega | (simp; done) | (simp; omega)) _) | (with_reducible refine Below.alloc ?_ (by first | omega | (simp; done) | (simp; omega)) _) | refine below_drewN ?_ _ | refine Below.drew ?_ | (refine below_thru (by assumption) ?_ (by first | omega | (simp; done) | (simp; omega))) | exact Below.refl _ _)⟩
              | some n5 =>
                subst hRr
                go_wp2_with (first | (go_at_call 104; refine ( hk1.out _).mono ?_; rintro e w1 ⟨rfl, hb⟩; obtain ⟨hc, hfz⟩ := bcell hb; have hz := hb.size; (try simp at hz); (try have hz0 : w.heap.size < w1.heap.size := by omega); (try have hz1 : w.heap.size + 1 < w1.heap.size := by omega); (try have hz2 : w.heap.size + 2 < w1.heap.size := by omega); (try have hz3 : w.heap.size + 3 < w1.heap.size := by omega); (try have hcA := fun o => hc w.heap.size o (by first | omega | (simp; omega))); (try have hcB := fun o => hc (w.heap.size + 1) o (by first | omega | (simp; omega))); (try have hcGgA := fun o => hc gA o (by first | omega | (simp; omega))); (try have hfGgA := fun o => hfz gA o (by first | omega | (simp; omega))); (try have hzGgA : gA < w1.heap.size := by omega)) | (go_at_call 104; refine ( hk2.out _).mono ?_; rintro e w1 ⟨rfl, hb⟩; obtain ⟨hc, hfz⟩ := bcell hb; have hz := hb.size; (try simp at hz); (try have hz0 : w.heap.size < w1.heap.size := by omega); (try have hz1 : w.heap.size + 1 < w1.heap.size := by omega); (try have hz2 : w.heap.size + 2 < w1.heap.size := by omega); (try have hz3 : w.heap.size + 3 < w1.heap.size := by omega); (try have hcA := fun o => hc w.heap.size o (by first | omega | (simp; omega))); (try have hcB := fun o => hc (w.heap.size + 1) o (by first | omega | (simp; omega))); (try have hcGgA := fun o => hc gA o (by first | omega | (simp; omega))); (try have hfGgA := fun o => hfz gA o (by first | omega | (simp; omega))); (try have hzGgA : gA < w1.heap.size := by omega)) | (go_at_call 106; refine ( hnm.out _).mono ?_; rintro e w1 ⟨rfl, rfl⟩) | (go_at_call 105; refine ( hpat.out _).mono ?_; rintro e w1 ⟨rfl, hb⟩; obtain ⟨hc, hfz⟩ := bcell hb; have hz := hb.size; (try simp at hz); (try have hz0 : w.heap.size < w1.heap.size := by omega); (try have hz1 : w.heap.size + 1 < w1.heap.size := by omega); (try have hz2 : w.heap.size + 2 < w1.heap.size := by omega); (try have hz3 : w.heap.size + 3 < w1.heap.size := by omega); (try have hcA := fun o => hc w.heap.size o (by first | omega | (simp; omega))); (try have hcB := fun o => hc (w.heap.size + 1) o (by first | omega | (simp; omega))); (try have hcGgA := fun o => hc gA o (by first | omega | (simp; omega))); (try have hfGgA := fun o => hfz gA o (by first | omega | (simp; omega))); (try have hzGgA : gA < w1.heap.size := by omega)))
                refine bodyPost_ret (v := (.agg #[.int .i64 4, (Value.string ⟨([]).toArray⟩), (Value.string ⟨(nm).toArray⟩), .int .i64 (n5)])) (by simp only [results, Tryz.results78]; go_simp) rfl ?_
                exact ⟨rfl, by (repeat' first | (with_reducible exact Below.refl _ _) | (with_reducible refine Below.setCell ?_ (by first | omega | (simp; done) | (simp; omega)) _) | (with_reducible refine Below.alloc ?_ (by first | omega | (simp; done) | (simp; omega)) _) | refine below_drewN ?_ _ | refine Below.drew ?_ | (refine below_thru (by assumption) ?_ (by first | omega | (simp; done) | (simp; omega))) | exact Below.refl _ _)⟩
end Go.Proofs.YtkfoogmncokjnaaGreatDoor
