/- glacisref03.clean. -/
import Derived.Test.YthmgcnaoionmoaaDoorClean
import Derived.Test.YthmgcnaoionmoaaDoorRef2
namespace Go.Proofs.YthmgcnaoionmoaaDoor
open Go.RowKit

theorem own_cut {w : World} {B g n c : Nat} {L : List (List UInt8)} (h : Own w B (.slice (some ⟨g, 0, none⟩) n c) L) (j : Nat) (hj : j ≤ L.length) : Own w B (.slice (some ⟨g, 0, none⟩) j c) (L.take j) := by
  obtain ⟨hl, h⟩ := h
  rcases h with ⟨e, _⟩ | ⟨g', cap, cur, e, hB, hh, h1, h2, h3, h4⟩
  · cases e
  · injection e with e1 e2 e3
    injection e1 with e1
    injection e1 with e1
    subst e1 e3
    refine ⟨by simp [strs, Nat.min_eq_left hj], Or.inr ⟨g, c, cur, by rw [List.length_take, Nat.min_eq_left hj], hB, hh, by rw [List.length_take]; omega, h2, h3, ?_⟩⟩
    have e5 : (L.take j).length * 1 = min j (L.length * 1) := by simp
    rw [e5, ← List.take_take, h4]
    simp [strs]

theorem own_slice {w : World} {B : Nat} {v : Value} {L : List (List UInt8)} (h : Own w B v L) : ∃ A c, v = .slice A L.length c := by
  obtain ⟨hl, h⟩ := h
  rcases h with ⟨rfl, h0⟩ | ⟨g', cap, cur, rfl, _⟩
  · exact ⟨none, 0, by rw [h0]⟩
  · exact ⟨_, _, rfl⟩
set_option maxHeartbeats 4000000 in
set_option maxRecDepth 100000 in
theorem ref3_clean (path : List UInt8) (w : World) (hs : path.length ≤ 1000000) (hp : path = [] ∨ path.head? = some 47) :
    Calls Tryd.prog 85 #[(Value.string ⟨(path).toArray⟩)] w (Ret w ((Value.string ⟨(Gl.clean path).toArray⟩))) := by
  have hlen := split_len 47 path
  have hpos := split_pos 47 path
  -- the parts behind the first one
  have hcl : ∃ L : List (List UInt8), 2 ≤ L.length ∧ L.length ≤ 1000002 ∧ Gl.clean path = Gl.slashed (Gl.cleanGo [] (L.drop 1)) ∧ (Gl.slashed (L.drop 1)).length ≤ 1000001 ∧ (if (Gl.split 47 path).length = 1 then L = Gl.split 47 path ++ [[]] else L = Gl.split 47 path) := by
    cases path with
    | nil => exact ⟨[[], []], by simp, by simp, rfl, by simp [Gl.slashed], by simp [Gl.split, Gl.splitGo]⟩
    | cons c r =>
      obtain rfl : c = 47 := by simpa using hp
      have e : Gl.split 47 (47 :: r) = [] :: Gl.split 47 r := by simp [Gl.split, Gl.splitGo]
      have h1 := split_pos 47 r
      have h2 := split_len 47 r
      have h3 := slashed_split 47 r
      simp at hs
      refine ⟨[] :: Gl.split 47 r, by simp; omega, by simp; omega, rfl, by simp; omega, ?_⟩
      rw [e, if_neg (by rw [List.length_cons]; omega)]
  obtain ⟨L, hL2, hLm, hR, hsl, hLe⟩ := hcl
  generalize Gl.clean path = R at *
  replace hR := Lib.hid hR
  generalize hL0 : Gl.split 47 path = L0 at *
  replace hL0 := Lib.hid hL0
  by_cases h1 : L0.length = 1
  · rw [if_pos h1] at hLe
    have hb : ((L0.length : Int) == 1) = true := by rw [h1]; rfl
    replace hLe := Lib.hid hLe
    replace h1 := Lib.hid h1
    go_enter Tryd.func85, Tryd.ntmps85
    go_wp2_with (first | (go_at_call 91; refine ( hL0.out ▸ ref1_split path 47 _ (by omega)).mono ?_; rintro e w1 ⟨v, rfl, hst, hb⟩; obtain ⟨hc, hfz⟩ := bcell hb; have hz := hb.size; (try simp at hz); (try have hz0 : w.heap.size < w1.heap.size := by omega); (try have hz1 : w.heap.size + 1 < w1.heap.size := by omega); (try have hz2 : w.heap.size + 2 < w1.heap.size := by omega); (try have hz3 : w.heap.size + 3 < w1.heap.size := by omega); obtain ⟨lb, lc, hlc, hlm, hlB, hlv, _, hlcell⟩ := hst.at_; obtain rfl := hlv ( hpos); obtain ⟨hlb, hlB⟩ := hlB ( hpos)) | (at_builtin; refine wpList_app rfl _ _ rfl w.heap.size L0 _ rfl (hst.alloc _) [] _ rfl ?_ (by omega) (by simp; omega) ?_))
    case refine_1 => go_simp
    rintro v' W hown' hW
    rw [← hLe.out] at hown'
    have hB : Below w.heap.size w W := (hb.alloc hz _).trans hW
    obtain ⟨mb, mc, hmc, hmm, hmB, hmv, _, hmcell⟩ := hown'.at_
    obtain rfl := hmv (by omega)
    obtain ⟨hmb, hmB⟩ := hmB (by omega)
    replace hmcell := Lib.hid hmcell
    clear hmv hown' hst hlv hc hfz hlcell hW
    go_wp2
    go_loopw [4, 5] (fun v i wr => ∃ (k : Nat) (out : List (List UInt8)), 1 ≤ k ∧ k ≤ L.length ∧ i = .int .i64 k ∧ Own wr W.heap.size v out ∧ Below W.heap.size W wr ∧
        Hid (R = Gl.slashed (Gl.cleanGo out (L.drop k))) ∧ (Gl.slashed out).length + (Gl.slashed (L.drop k)).length ≤ 1000001) (fun _ i _ => L.length - (intOf i).toNat)
    case atStart => exact ⟨1, [], Nat.le_refl _, by omega, rfl, Own.nil _ _, Below.refl _ _, hR, by simpa [Gl.slashed] using hsl⟩
    case round =>
      obtain ⟨k, out, hk1', hk, rfl, hown, hW, hr, hbd⟩ := hrel
      have hsz := hW.size
      have hol := len_slashed out
      by_cases hlt : k < L.length
      · have hck : wr.cell? ⟨mb, k, none⟩ = some (.string ⟨(L[k]).toArray⟩) := (hW.cell (p := ⟨mb, k, none⟩) hmB).trans (hmcell.out k hlt)
        rw [drop_consL hlt, cleanGo_step] at hr
        have hbd2 := stepOut_len out L[k] (L.drop (k + 1)).isEmpty
        have hol' : out.length ≤ 1000002 := by omega
        clear hol
        rw [drop_consL hlt, slashed_cons] at hbd
        have hbd3 : (Gl.slashed (stepOut out L[k] (L.drop (k + 1)).isEmpty)).length + (Gl.slashed (L.drop (k + 1))).length ≤ 1000001 := by
          simp at hbd; omega
        clear hbd hbd2
        have hbd := hbd3
        clear hbd3
        replace hbd := Lib.hid hbd
        obtain ⟨ob, oc, hoc, hom, hoB, hov, hov0, _⟩ := hown.at_
        by_cases ho : 0 < out.length
        · obtain rfl := hov ho
          clear hov hov0 hoB
          by_cases hdd : L[k] = [46, 46]
          · have hk1 := Lib.hid hdd
            have hb1 : (L[k] == ([46, 46] : List UInt8)) = true := by rw [hdd]; rfl
            have hb2 : (L[k] != ([46, 46] : List UInt8)) = false := by rw [hdd]; rfl
            clear hdd
            by_cases hlast : k + 1 = L.length
            · have hle : Hid ((L.drop (k + 1)).isEmpty = true) := Lib.hid (by rw [List.drop_eq_nil_of_le (by omega)]; rfl)
              have hbl : ((k : Int) == (L.length : Int) - 1) = true := by rw [beq_iff_eq]; omega
              clear hlast
              have hstep : Hid (stepOut out L[k] (L.drop (k + 1)).isEmpty = out.dropLast ++ [[]]) := Lib.hid (by rw [hle.out, stepOut]; simp [hk1.out])
              have hcut := own_cut hown (out.length - 1) (by omega)
              rw [← List.dropLast_eq_take] at hcut
              replace hcut := Lib.hid hcut
              go_wp2_with (at_builtin; refine wpList_app rfl _ _ rfl W.heap.size out.dropLast _ rfl (hcut.out.alloc _) [] _ rfl ?_ (by simp at *; omega) (by simp; omega) ?_)
              case refine_1 => go_simp
              rintro v' w' hown' hw'
              have hW' := (hW.alloc hsz _).trans hw'
              go_wp2
              go_roundw
              case rel => exact ⟨k + 1, _, by omega, by omega, by go_num, hown', hW', Lib.hid (hr.out.trans (by rw [hstep.out])), by have := hbd.out; rw [hstep.out] at this; exact this⟩
              case measure => simp [intOf]; omega
            · have hle : Hid ((L.drop (k + 1)).isEmpty = false) := Lib.hid (by rw [drop_consL (show k + 1 < L.length by omega)]; rfl)
              have hbl : ((k : Int) == (L.length : Int) - 1) = false := by rw [beq_eq_false_iff_ne]; omega
              clear hlast
              have hstep : Hid (stepOut out L[k] (L.drop (k + 1)).isEmpty = out.dropLast) := Lib.hid (by rw [hle.out, stepOut]; simp [hk1.out])
              have hcut := own_cut hown (out.length - 1) (by omega)
              rw [← List.dropLast_eq_take] at hcut
              replace hcut := Lib.hid hcut
              have hown' := hcut.out
              have hW' := hW
              replace hown' := Lib.hid hown'
              go_wp2
              go_roundw
              case rel => exact ⟨k + 1, _, by omega, by omega, by go_num, hown'.out, hW', Lib.hid (hr.out.trans (by rw [hstep.out])), by have := hbd.out; rw [hstep.out] at this; exact this⟩
              case measure => simp [intOf]; omega
          · have hb1 : (L[k] == ([46, 46] : List UInt8)) = false := by rw [beq_eq_false_iff_ne]; exact hdd
            have hb2 : (L[k] != ([46, 46] : List UInt8)) = true := by rw [bne_iff_ne]; exact hdd
            by_cases hd : L[k] = [46]
            · have hk1 := Lib.hid hd
              have hb3 : (L[k] == ([46] : List UInt8)) = true := by rw [hd]; rfl
              clear hdd hd
              by_cases hlast : k + 1 = L.length
              · have hle : Hid ((L.drop (k + 1)).isEmpty = true) := Lib.hid (by rw [List.drop_eq_nil_of_le (by omega)]; rfl)
                have hbl : ((k : Int) == (L.length : Int) - 1) = true := by rw [beq_iff_eq]; omega
                clear hlast
                have hstep : Hid (stepOut out L[k] (L.drop (k + 1)).isEmpty = out ++ [[]]) := Lib.hid (by rw [hle.out, stepOut]; simp [hk1.out])
                go_wp2_with (at_builtin; refine wpList_app rfl _ _ rfl W.heap.size out _ rfl (hown.alloc _) [] _ rfl ?_ (by simp at *; omega) (by simp; omega) ?_)
                case refine_1 => go_simp
                rintro v' w' hown' hw'
                have hW' := (hW.alloc hsz _).trans hw'
                go_wp2
                go_roundw
                case rel => exact ⟨k + 1, _, by omega, by omega, by go_num, hown', hW', Lib.hid (hr.out.trans (by rw [hstep.out])), by have := hbd.out; rw [hstep.out] at this; exact this⟩
                case measure => simp [intOf]; omega
              · have hle : Hid ((L.drop (k + 1)).isEmpty = false) := Lib.hid (by rw [drop_consL (show k + 1 < L.length by omega)]; rfl)
                have hbl : ((k : Int) == (L.length : Int) - 1) = false := by rw [beq_eq_false_iff_ne]; omega
                clear hlast
                have hstep : Hid (stepOut out L[k] (L.drop (k + 1)).isEmpty = out) := Lib.hid (by rw [hle.out, stepOut]; simp [hk1.out])
                have hown' := Lib.hid hown
                have hW' := hW
                go_wp2
                go_roundw
                case rel => exact ⟨k + 1, _, by omega, by omega, by go_num, hown'.out, hW', Lib.hid (hr.out.trans (by rw [hstep.out])), by have := hbd.out; rw [hstep.out] at this; exact this⟩
                case measure => simp [intOf]; omega
            · have hk1 := Lib.hid (And.intro hdd hd)
              have hb3 : (L[k] == ([46] : List UInt8)) = false := by rw [beq_eq_false_iff_ne]; exact hd
              clear hdd hd
              have hstep : Hid (stepOut out L[k] (L.drop (k + 1)).isEmpty = out ++ [L[k]]) := Lib.hid (by rw [stepOut, if_neg hk1.out.1, if_neg hk1.out.2])
              go_wp2_with (at_builtin; refine wpList_app rfl _ _ rfl W.heap.size out _ rfl (hown.alloc _) L[k] _ rfl ?_ (by simp at *; omega) (by simp; omega) ?_)
              case refine_1 => go_simp
              rintro v' w' hown' hw'
              have hW' := (hW.alloc hsz _).trans hw'
              go_wp2
              go_roundw
              case rel => exact ⟨k + 1, _, by omega, by omega, by go_num, hown', hW', Lib.hid (hr.out.trans (by rw [hstep.out])), by have := hbd.out; rw [hstep.out] at this; exact this⟩
              case measure => simp [intOf]; omega
        · obtain ⟨A, c, rfl⟩ := hov0 (by omega)
          have hnil : Hid (out = []) := Lib.hid (List.eq_nil_of_length_eq_zero (by omega))
          have ho0 : out.length = 0 := by omega
          clear hov hov0 hoB
          replace ho0 := Lib.hid ho0
          by_cases hdd : L[k] = [46, 46]
          · have hk1 := Lib.hid hdd
            have hb1 : (L[k] == ([46, 46] : List UInt8)) = true := by rw [hdd]; rfl
            have hb2 : (L[k] != ([46, 46] : List UInt8)) = false := by rw [hdd]; rfl
            clear hdd
            by_cases hlast : k + 1 = L.length
            · have hle : Hid ((L.drop (k + 1)).isEmpty = true) := Lib.hid (by rw [List.drop_eq_nil_of_le (by omega)]; rfl)
              have hbl : ((k : Int) == (L.length : Int) - 1) = true := by rw [beq_iff_eq]; omega
              clear hlast
              have hstep : Hid (stepOut out L[k] (L.drop (k + 1)).isEmpty = out.dropLast ++ [[]]) := Lib.hid (by rw [hle.out, stepOut]; simp [hk1.out])
              have hdl : Hid (out.dropLast = out) := Lib.hid (by rw [hnil.out]; rfl)
              rw [hdl.out] at hstep
              go_wp2_with (at_builtin; refine wpList_app rfl _ _ rfl W.heap.size out _ rfl (hown.alloc _) [] _ rfl ?_ (by simp at *; omega) (by simp; omega) ?_)
              case refine_1 => go_simp
              rintro v' w' hown' hw'
              have hW' := (hW.alloc hsz _).trans hw'
              go_wp2
              go_roundw
              case rel => exact ⟨k + 1, _, by omega, by omega, by go_num, hown', hW', Lib.hid (hr.out.trans (by rw [hstep.out])), by have := hbd.out; rw [hstep.out] at this; exact this⟩
              case measure => simp [intOf]; omega
            · have hle : Hid ((L.drop (k + 1)).isEmpty = false) := Lib.hid (by rw [drop_consL (show k + 1 < L.length by omega)]; rfl)
              have hbl : ((k : Int) == (L.length : Int) - 1) = false := by rw [beq_eq_false_iff_ne]; omega
              clear hlast
              have hstep : Hid (stepOut out L[k] (L.drop (k + 1)).isEmpty = out.dropLast) := Lib.hid (by rw [hle.out, stepOut]; simp [hk1.out])
              have hdl : Hid (out.dropLast = out) := Lib.hid (by rw [hnil.out]; rfl)
              rw [hdl.out] at hstep
              have hown' := Lib.hid hown
              have hW' := hW
              go_wp2
              go_roundw
              case rel => exact ⟨k + 1, _, by omega, by omega, by go_num, hown'.out, hW', Lib.hid (hr.out.trans (by rw [hstep.out])), by have := hbd.out; rw [hstep.out] at this; exact this⟩
              case measure => simp [intOf]; omega
          · have hb1 : (L[k] == ([46, 46] : List UInt8)) = false := by rw [beq_eq_false_iff_ne]; exact hdd
            have hb2 : (L[k] != ([46, 46] : List UInt8)) = true := by rw [bne_iff_ne]; exact hdd
            by_cases hd : L[k] = [46]
            · have hk1 := Lib.hid hd
              have hb3 : (L[k] == ([46] : List UInt8)) = true := by rw [hd]; rfl
              clear hdd hd
              by_cases hlast : k + 1 = L.length
              · have hle : Hid ((L.drop (k + 1)).isEmpty = true) := Lib.hid (by rw [List.drop_eq_nil_of_le (by omega)]; rfl)
                have hbl : ((k : Int) == (L.length : Int) - 1) = true := by rw [beq_iff_eq]; omega
                clear hlast
                have hstep : Hid (stepOut out L[k] (L.drop (k + 1)).isEmpty = out ++ [[]]) := Lib.hid (by rw [hle.out, stepOut]; simp [hk1.out])
                go_wp2_with (at_builtin; refine wpList_app rfl _ _ rfl W.heap.size out _ rfl (hown.alloc _) [] _ rfl ?_ (by simp at *; omega) (by simp; omega) ?_)
                case refine_1 => go_simp
                rintro v' w' hown' hw'
                have hW' := (hW.alloc hsz _).trans hw'
                go_wp2
                go_roundw
                case rel => exact ⟨k + 1, _, by omega, by omega, by go_num, hown', hW', Lib.hid (hr.out.trans (by rw [hstep.out])), by have := hbd.out; rw [hstep.out] at this; exact this⟩
                case measure => simp [intOf]; omega
              · have hle : Hid ((L.drop (k + 1)).isEmpty = false) := Lib.hid (by rw [drop_consL (show k + 1 < L.length by omega)]; rfl)
                have hbl : ((k : Int) == (L.length : Int) - 1) = false := by rw [beq_eq_false_iff_ne]; omega
                clear hlast
                have hstep : Hid (stepOut out L[k] (L.drop (k + 1)).isEmpty = out) := Lib.hid (by rw [hle.out, stepOut]; simp [hk1.out])
                have hown' := Lib.hid hown
                have hW' := hW
                go_wp2
                go_roundw
                case rel => exact ⟨k + 1, _, by omega, by omega, by go_num, hown'.out, hW', Lib.hid (hr.out.trans (by rw [hstep.out])), by have := hbd.out; rw [hstep.out] at this; exact this⟩
                case measure => simp [intOf]; omega
            · have hk1 := Lib.hid (And.intro hdd hd)
              have hb3 : (L[k] == ([46] : List UInt8)) = false := by rw [beq_eq_false_iff_ne]; exact hd
              clear hdd hd
              have hstep : Hid (stepOut out L[k] (L.drop (k + 1)).isEmpty = out ++ [L[k]]) := Lib.hid (by rw [stepOut, if_neg hk1.out.1, if_neg hk1.out.2])
              go_wp2_with (at_builtin; refine wpList_app rfl _ _ rfl W.heap.size out _ rfl (hown.alloc _) L[k] _ rfl ?_ (by simp at *; omega) (by simp; omega) ?_)
              case refine_1 => go_simp
              rintro v' w' hown' hw'
              have hW' := (hW.alloc hsz _).trans hw'
              go_wp2
              go_roundw
              case rel => exact ⟨k + 1, _, by omega, by omega, by go_num, hown', hW', Lib.hid (hr.out.trans (by rw [hstep.out])), by have := hbd.out; rw [hstep.out] at this; exact this⟩
              case measure => simp [intOf]; omega
      · rw [List.drop_eq_nil_of_le (by omega)] at hr
        obtain ⟨ob, oc, hoc, hom, hoB, hov, hov0, hocell⟩ := hown.at_
        replace hr : Hid (R = Gl.slashed out) := Lib.hid (hr.out.trans (by simp [Gl.cleanGo]))
        rw [List.drop_eq_nil_of_le (by omega)] at hbd
        replace hbd : (Gl.slashed out).length ≤ 1000001 := by simp [Gl.slashed] at hbd ⊢; omega
        obtain ⟨A, oc', rfl⟩ := own_slice hown
        clear hov0 hown
        replace hov := Lib.hid hov
        replace hocell := Lib.hid hocell
        have hBr : Below w.heap.size w wr := hB.trans (hW.mono hB.size)
        replace hBr := Lib.hid hBr
        have hol' : out.length ≤ 1000001 := by omega
        clear hmcell hmB hmb hmc hmm hR hoB hol
        have hkL : k = L.length := by omega
        subst hkL
        clear hk hlt
        have hltf : decide (L.length < L.length) = false := by simp
        clear hlb hlB hlc hlm
        go_wp2
        clear hltf
        go_loop [6, 7] (fun t i => ∃ k : Nat, k ≤ out.length ∧ i = .int .i64 k ∧ t = (Value.string ⟨(Gl.slashed (out.take k)).toArray⟩)) (fun _ i => out.length - (intOf i).toNat)
        case atStart => exact ⟨0, by omega, rfl, by simp [Gl.slashed]⟩
        case round =>
          obtain ⟨k, hk, rfl, rfl⟩ := hrel
          have htl := slashed_take out k
          by_cases hlt : k < out.length
          · have e := hov.out (by omega)
            injection e with e1
            subst e1
            have hck := hocell.out k hlt
            have hst : Hid (Gl.slashed (out.take (k + 1)) = Gl.slashed (out.take k) ++ 47 :: out[k]) := Lib.hid (by rw [List.take_succ_eq_append_getElem hlt, slashed_append]; simp [Gl.slashed])
            have htl2 := slashed_take out (k + 1)
            rw [hst.out] at htl2
            simp at htl2
            go_wp2
            go_round
            case rel => exact ⟨k + 1, by omega, by go_num, by rw [hst.out]⟩
            case measure => simp [intOf]; omega
          · rw [List.take_of_length_le (by omega)]
            go_wp2
            go_ret
            exact ⟨by rw [hr.out]; rfl, hBr.out⟩
  · rw [if_neg h1] at hLe
    obtain rfl : L = L0 := hLe
    have hb : ((L.length : Int) == 1) = false := by rw [beq_eq_false_iff_ne]; omega
    replace h1 := Lib.hid h1
    go_enter Tryd.func85, Tryd.ntmps85
    go_wp2_with (first | (go_at_call 91; refine ( hL0.out ▸ ref1_split path 47 _ (by omega)).mono ?_; rintro e w1 ⟨v, rfl, hst, hb⟩; obtain ⟨hc, hfz⟩ := bcell hb; have hz := hb.size; (try simp at hz); (try have hz0 : w.heap.size < w1.heap.size := by omega); (try have hz1 : w.heap.size + 1 < w1.heap.size := by omega); (try have hz2 : w.heap.size + 2 < w1.heap.size := by omega); (try have hz3 : w.heap.size + 3 < w1.heap.size := by omega); obtain ⟨lb, lc, hlc, hlm, hlB, hlv, _, hlcell⟩ := hst.at_; obtain rfl := hlv ( hpos); obtain ⟨hlb, hlB⟩ := hlB ( hpos)))
    replace hlcell := Lib.hid hlcell
    go_loopw [4, 5] (fun v i wr => ∃ (k : Nat) (out : List (List UInt8)), 1 ≤ k ∧ k ≤ L.length ∧ i = .int .i64 k ∧ Own wr w1.heap.size v out ∧ Below w1.heap.size w1 wr ∧
        Hid (R = Gl.slashed (Gl.cleanGo out (L.drop k))) ∧ (Gl.slashed out).length + (Gl.slashed (L.drop k)).length ≤ 1000001) (fun _ i _ => L.length - (intOf i).toNat)
    case atStart => exact ⟨1, [], Nat.le_refl _, by omega, rfl, Own.nil _ _, Below.refl _ _, hR, by simpa [Gl.slashed] using hsl⟩
    case round =>
      obtain ⟨k, out, hk1', hk, rfl, hown, hW, hr, hbd⟩ := hrel
      have hsz := hW.size
      have hol := len_slashed out
      by_cases hlt : k < L.length
      · have hck : wr.cell? ⟨lb, k, none⟩ = some (.string ⟨(L[k]).toArray⟩) := (hW.cell (p := ⟨lb, k, none⟩) hlB).trans (hlcell.out k hlt)
        rw [drop_consL hlt, cleanGo_step] at hr
        have hbd2 := stepOut_len out L[k] (L.drop (k + 1)).isEmpty
        have hol' : out.length ≤ 1000002 := by omega
        clear hol
        rw [drop_consL hlt, slashed_cons] at hbd
        have hbd3 : (Gl.slashed (stepOut out L[k] (L.drop (k + 1)).isEmpty)).length + (Gl.slashed (L.drop (k + 1))).length ≤ 1000001 := by
          simp at hbd; omega
        clear hbd hbd2
        have hbd := hbd3
        clear hbd3
        replace hbd := Lib.hid hbd
        obtain ⟨ob, oc, hoc, hom, hoB, hov, hov0, _⟩ := hown.at_
        by_cases ho : 0 < out.length
        · obtain rfl := hov ho
          clear hov hov0 hoB
          by_cases hdd : L[k] = [46, 46]
          · have hk1 := Lib.hid hdd
            have hb1 : (L[k] == ([46, 46] : List UInt8)) = true := by rw [hdd]; rfl
            have hb2 : (L[k] != ([46, 46] : List UInt8)) = false := by rw [hdd]; rfl
            clear hdd
            by_cases hlast : k + 1 = L.length
            · have hle : Hid ((L.drop (k + 1)).isEmpty = true) := Lib.hid (by rw [List.drop_eq_nil_of_le (by omega)]; rfl)
              have hbl : ((k : Int) == (L.length : Int) - 1) = true := by rw [beq_iff_eq]; omega
              clear hlast
              have hstep : Hid (stepOut out L[k] (L.drop (k + 1)).isEmpty = out.dropLast ++ [[]]) := Lib.hid (by rw [hle.out, stepOut]; simp [hk1.out])
              have hcut := own_cut hown (out.length - 1) (by omega)
              rw [← List.dropLast_eq_take] at hcut
              replace hcut := Lib.hid hcut
              go_wp2_with (at_builtin; refine wpList_app rfl _ _ rfl w1.heap.size out.dropLast _ rfl (hcut.out.alloc _) [] _ rfl ?_ (by simp at *; omega) (by simp; omega) ?_)
              case refine_1 => go_simp
              rintro v' w' hown' hw'
              have hW' := (hW.alloc hsz _).trans hw'
              go_wp2
              go_roundw
              case rel => exact ⟨k + 1, _, by omega, by omega, by go_num, hown', hW', Lib.hid (hr.out.trans (by rw [hstep.out])), by have := hbd.out; rw [hstep.out] at this; exact this⟩
              case measure => simp [intOf]; omega
            · have hle : Hid ((L.drop (k + 1)).isEmpty = false) := Lib.hid (by rw [drop_consL (show k + 1 < L.length by omega)]; rfl)
              have hbl : ((k : Int) == (L.length : Int) - 1) = false := by rw [beq_eq_false_iff_ne]; omega
              clear hlast
              have hstep : Hid (stepOut out L[k] (L.drop (k + 1)).isEmpty = out.dropLast) := Lib.hid (by rw [hle.out, stepOut]; simp [hk1.out])
              have hcut := own_cut hown (out.length - 1) (by omega)
              rw [← List.dropLast_eq_take] at hcut
              replace hcut := Lib.hid hcut
              have hown' := hcut.out
              have hW' := hW
              replace hown' := Lib.hid hown'
              go_wp2
              go_roundw
              case rel => exact ⟨k + 1, _, by omega, by omega, by go_num, hown'.out, hW', Lib.hid (hr.out.trans (by rw [hstep.out])), by have := hbd.out; rw [hstep.out] at this; exact this⟩
              case measure => simp [intOf]; omega
          · have hb1 : (L[k] == ([46, 46] : List UInt8)) = false := by rw [beq_eq_false_iff_ne]; exact hdd
            have hb2 : (L[k] != ([46, 46] : List UInt8)) = true := by rw [bne_iff_ne]; exact hdd
            by_cases hd : L[k] = [46]
            · have hk1 := Lib.hid hd
              have hb3 : (L[k] == ([46] : List UInt8)) = true := by rw [hd]; rfl
              clear hdd hd
              by_cases hlast : k + 1 = L.length
              · have hle : Hid ((L.drop (k + 1)).isEmpty = true) := Lib.hid (by rw [List.drop_eq_nil_of_le (by omega)]; rfl)
                have hbl : ((k : Int) == (L.length : Int) - 1) = true := by rw [beq_iff_eq]; omega
                clear hlast
                have hstep : Hid (stepOut out L[k] (L.drop (k + 1)).isEmpty = out ++ [[]]) := Lib.hid (by rw [hle.out, stepOut]; simp [hk1.out])
                go_wp2_with (at_builtin; refine wpList_app rfl _ _ rfl w1.heap.size out _ rfl (hown.alloc _) [] _ rfl ?_ (by simp at *; omega) (by simp; omega) ?_)
                case refine_1 => go_simp
                rintro v' w' hown' hw'
                have hW' := (hW.alloc hsz _).trans hw'
                go_wp2
                go_roundw
                case rel => exact ⟨k + 1, _, by omega, by omega, by go_num, hown', hW', Lib.hid (hr.out.trans (by rw [hstep.out])), by have := hbd.out; rw [hstep.out] at this; exact this⟩
                case measure => simp [intOf]; omega
              · have hle : Hid ((L.drop (k + 1)).isEmpty = false) := Lib.hid (by rw [drop_consL (show k + 1 < L.length by omega)]; rfl)
                have hbl : ((k : Int) == (L.length : Int) - 1) = false := by rw [beq_eq_false_iff_ne]; omega
                clear hlast
                have hstep : Hid (stepOut out L[k] (L.drop (k + 1)).isEmpty = out) := Lib.hid (by rw [hle.out, stepOut]; simp [hk1.out])
                have hown' := Lib.hid hown
                have hW' := hW
                go_wp2
                go_roundw
                case rel => exact ⟨k + 1, _, by omega, by omega, by go_num, hown'.out, hW', Lib.hid (hr.out.trans (by rw [hstep.out])), by have := hbd.out; rw [hstep.out] at this; exact this⟩
                case measure => simp [intOf]; omega
            · have hk1 := Lib.hid (And.intro hdd hd)
              have hb3 : (L[k] == ([46] : List UInt8)) = false := by rw [beq_eq_false_iff_ne]; exact hd
              clear hdd hd
              have hstep : Hid (stepOut out L[k] (L.drop (k + 1)).isEmpty = out ++ [L[k]]) := Lib.hid (by rw [stepOut, if_neg hk1.out.1, if_neg hk1.out.2])
              go_wp2_with (at_builtin; refine wpList_app rfl _ _ rfl w1.heap.size out _ rfl (hown.alloc _) L[k] _ rfl ?_ (by simp at *; omega) (by simp; omega) ?_)
              case refine_1 => go_simp
              rintro v' w' hown' hw'
              have hW' := (hW.alloc hsz _).trans hw'
              go_wp2
              go_roundw
              case rel => exact ⟨k + 1, _, by omega, by omega, by go_num, hown', hW', Lib.hid (hr.out.trans (by rw [hstep.out])), by have := hbd.out; rw [hstep.out] at this; exact this⟩
              case measure => simp [intOf]; omega
        · obtain ⟨A, c, rfl⟩ := hov0 (by omega)
          have hnil : Hid (out = []) := Lib.hid (List.eq_nil_of_length_eq_zero (by omega))
          have ho0 : out.length = 0 := by omega
          clear hov hov0 hoB
          replace ho0 := Lib.hid ho0
          by_cases hdd : L[k] = [46, 46]
          · have hk1 := Lib.hid hdd
            have hb1 : (L[k] == ([46, 46] : List UInt8)) = true := by rw [hdd]; rfl
            have hb2 : (L[k] != ([46, 46] : List UInt8)) = false := by rw [hdd]; rfl
            clear hdd
            by_cases hlast : k + 1 = L.length
            · have hle : Hid ((L.drop (k + 1)).isEmpty = true) := Lib.hid (by rw [List.drop_eq_nil_of_le (by omega)]; rfl)
              have hbl : ((k : Int) == (L.length : Int) - 1) = true := by rw [beq_iff_eq]; omega
              clear hlast
              have hstep : Hid (stepOut out L[k] (L.drop (k + 1)).isEmpty = out.dropLast ++ [[]]) := Lib.hid (by rw [hle.out, stepOut]; simp [hk1.out])
              have hdl : Hid (out.dropLast = out) := Lib.hid (by rw [hnil.out]; rfl)
              rw [hdl.out] at hstep
              go_wp2_with (at_builtin; refine wpList_app rfl _ _ rfl w1.heap.size out _ rfl (hown.alloc _) [] _ rfl ?_ (by simp at *; omega) (by simp; omega) ?_)
              case refine_1 => go_simp
              rintro v' w' hown' hw'
              have hW' := (hW.alloc hsz _).trans hw'
              go_wp2
              go_roundw
              case rel => exact ⟨k + 1, _, by omega, by omega, by go_num, hown', hW', Lib.hid (hr.out.trans (by rw [hstep.out])), by have := hbd.out; rw [hstep.out] at this; exact this⟩
              case measure => simp [intOf]; omega
            · have hle : Hid ((L.drop (k + 1)).isEmpty = false) := Lib.hid (by rw [drop_consL (show k + 1 < L.length by omega)]; rfl)
              have hbl : ((k : Int) == (L.length : Int) - 1) = false := by rw [beq_eq_false_iff_ne]; omega
              clear hlast
              have hstep : Hid (stepOut out L[k] (L.drop (k + 1)).isEmpty = out.dropLast) := Lib.hid (by rw [hle.out, stepOut]; simp [hk1.out])
              have hdl : Hid (out.dropLast = out) := Lib.hid (by rw [hnil.out]; rfl)
              rw [hdl.out] at hstep
              have hown' := Lib.hid hown
              have hW' := hW
              go_wp2
              go_roundw
              case rel => exact ⟨k + 1, _, by omega, by omega, by go_num, hown'.out, hW', Lib.hid (hr.out.trans (by rw [hstep.out])), by have := hbd.out; rw [hstep.out] at this; exact this⟩
              case measure => simp [intOf]; omega
          · have hb1 : (L[k] == ([46, 46] : List UInt8)) = false := by rw [beq_eq_false_iff_ne]; exact hdd
            have hb2 : (L[k] != ([46, 46] : List UInt8)) = true := by rw [bne_iff_ne]; exact hdd
            by_cases hd : L[k] = [46]
            · have hk1 := Lib.hid hd
              have hb3 : (L[k] == ([46] : List UInt8)) = true := by rw [hd]; rfl
              clear hdd hd
              by_cases hlast : k + 1 = L.length
              · have hle : Hid ((L.drop (k + 1)).isEmpty = true) := Lib.hid (by rw [List.drop_eq_nil_of_le (by omega)]; rfl)
                have hbl : ((k : Int) == (L.length : Int) - 1) = true := by rw [beq_iff_eq]; omega
                clear hlast
                have hstep : Hid (stepOut out L[k] (L.drop (k + 1)).isEmpty = out ++ [[]]) := Lib.hid (by rw [hle.out, stepOut]; simp [hk1.out])
                go_wp2_with (at_builtin; refine wpList_app rfl _ _ rfl w1.heap.size out _ rfl (hown.alloc _) [] _ rfl ?_ (by simp at *; omega) (by simp; omega) ?_)
                case refine_1 => go_simp
                rintro v' w' hown' hw'
                have hW' := (hW.alloc hsz _).trans hw'
                go_wp2
                go_roundw
                case rel => exact ⟨k + 1, _, by omega, by omega, by go_num, hown', hW', Lib.hid (hr.out.trans (by rw [hstep.out])), by have := hbd.out; rw [hstep.out] at this; exact this⟩
                case measure => simp [intOf]; omega
              · have hle : Hid ((L.drop (k + 1)).isEmpty = false) := Lib.hid (by rw [drop_consL (show k + 1 < L.length by omega)]; rfl)
                have hbl : ((k : Int) == (L.length : Int) - 1) = false := by rw [beq_eq_false_iff_ne]; omega
                clear hlast
                have hstep : Hid (stepOut out L[k] (L.drop (k + 1)).isEmpty = out) := Lib.hid (by rw [hle.out, stepOut]; simp [hk1.out])
                have hown' := Lib.hid hown
                have hW' := hW
                go_wp2
                go_roundw
                case rel => exact ⟨k + 1, _, by omega, by omega, by go_num, hown'.out, hW', Lib.hid (hr.out.trans (by rw [hstep.out])), by have := hbd.out; rw [hstep.out] at this; exact this⟩
                case measure => simp [intOf]; omega
            · have hk1 := Lib.hid (And.intro hdd hd)
              have hb3 : (L[k] == ([46] : List UInt8)) = false := by rw [beq_eq_false_iff_ne]; exact hd
              clear hdd hd
              have hstep : Hid (stepOut out L[k] (L.drop (k + 1)).isEmpty = out ++ [L[k]]) := Lib.hid (by rw [stepOut, if_neg hk1.out.1, if_neg hk1.out.2])
              go_wp2_with (at_builtin; refine wpList_app rfl _ _ rfl w1.heap.size out _ rfl (hown.alloc _) L[k] _ rfl ?_ (by simp at *; omega) (by simp; omega) ?_)
              case refine_1 => go_simp
              rintro v' w' hown' hw'
              have hW' := (hW.alloc hsz _).trans hw'
              go_wp2
              go_roundw
              case rel => exact ⟨k + 1, _, by omega, by omega, by go_num, hown', hW', Lib.hid (hr.out.trans (by rw [hstep.out])), by have := hbd.out; rw [hstep.out] at this; exact this⟩
              case measure => simp [intOf]; omega
      · rw [List.drop_eq_nil_of_le (by omega)] at hr
        obtain ⟨ob, oc, hoc, hom, hoB, hov, hov0, hocell⟩ := hown.at_
        replace hr : Hid (R = Gl.slashed out) := Lib.hid (hr.out.trans (by simp [Gl.cleanGo]))
        rw [List.drop_eq_nil_of_le (by omega)] at hbd
        replace hbd : (Gl.slashed out).length ≤ 1000001 := by simp [Gl.slashed] at hbd ⊢; omega
        obtain ⟨A, oc', rfl⟩ := own_slice hown
        clear hov0 hown
        replace hov := Lib.hid hov
        replace hocell := Lib.hid hocell
        have hBr : Below w.heap.size w wr := hb.trans (hW.mono hb.size)
        replace hBr := Lib.hid hBr
        have hol' : out.length ≤ 1000001 := by omega
        clear hlcell hlB hlb hlc hlm hR hoB hol
        have hkL : k = L.length := by omega
        subst hkL
        clear hk hlt
        have hltf : decide (L.length < L.length) = false := by simp
        go_wp2
        clear hltf
        go_loop [6, 7] (fun t i => ∃ k : Nat, k ≤ out.length ∧ i = .int .i64 k ∧ t = (Value.string ⟨(Gl.slashed (out.take k)).toArray⟩)) (fun _ i => out.length - (intOf i).toNat)
        case atStart => exact ⟨0, by omega, rfl, by simp [Gl.slashed]⟩
        case round =>
          obtain ⟨k, hk, rfl, rfl⟩ := hrel
          have htl := slashed_take out k
          by_cases hlt : k < out.length
          · have e := hov.out (by omega)
            injection e with e1
            subst e1
            have hck := hocell.out k hlt
            have hst : Hid (Gl.slashed (out.take (k + 1)) = Gl.slashed (out.take k) ++ 47 :: out[k]) := Lib.hid (by rw [List.take_succ_eq_append_getElem hlt, slashed_append]; simp [Gl.slashed])
            have htl2 := slashed_take out (k + 1)
            rw [hst.out] at htl2
            simp at htl2
            go_wp2
            go_round
            case rel => exact ⟨k + 1, by omega, by go_num, by rw [hst.out]⟩
            case measure => simp [intOf]; omega
          · rw [List.take_of_length_le (by omega)]
            go_wp2
            go_ret
            exact ⟨by rw [hr.out]; rfl, hBr.out⟩
end Go.Proofs.YthmgcnaoionmoaaDoor
