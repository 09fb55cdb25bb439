/- glacisref03.clean. glacisref03.web. -/
import Derived.Test.YtbafofldgkigmaaGreatDoorThree
import Derived.Test.YtbafofldgkigmaaGreatDoorOne
namespace Go.Proofs.YtbafofldgkigmaaGreatDoor
open Go.RowKit

set_option maxHeartbeats 4000000 in
set_option maxRecDepth 100000 in
theorem ref3_clean (path : List UInt8) (w : World) (hs : path.length ≤ 1000000) (hp : path = [] ∨ path.head? = some 47) :
    Calls Tryz.prog 186 #[(Value.string ⟨(path).toArray⟩)] w (Ret w ((Value.string ⟨(Gl.clean path).toArray⟩))) := by
  have hlen := split_len 47 path
  have hpos := split_pos 47 path
  -- the parts behind the first one
  have hcl : ∃ L : List (List UInt8), 2 ≤ L.length ∧ L.length ≤ 1000002 ∧ Gl.clean path = Gl.slashed (Gl.cleanGo [] (L.drop 1)) ∧ (Gl.slashed (L.drop 1)).length ≤ 1000001 ∧ (if (Gl.split 47 path).length = 1 then L = Gl.split 47 path ++ [[]] else L = Gl.split 47 path) := by
    cases path with
    | nil => exact ⟨[[], []], by simp, by simp, rfl, by simp [Gl.slashed], by simp [Gl.split, Gl.splitGo]⟩
    | cons c r =>
      obtain rfl : c = 47 := by simpa using hp
      have e : Gl.split 47 (47 :: r) = [] :: Gl.split 47 r := by simp [Gl.split, Gl.splitGo]
      have h1 := split_pos 47 r
      have h2 := split_len 47 r
      have h3 := slashed_split 47 r
      simp at hs
      refine ⟨[] :: Gl.split 47 r, by simp; omega, by simp; omega, rfl, by simp; omega, ?_⟩
      rw [e, if_neg (by rw [List.length_cons]; omega)]
  obtain ⟨L, hL2, hLm, hR, hsl, hLe⟩ := hcl
  generalize Gl.clean path = R at *
  replace hR := Lib.hid hR
  generalize hL0 : Gl.split 47 path = L0 at *
  replace hL0 := Lib.hid hL0
  by_cases h1 : L0.length = 1
  · rw [if_pos h1] at hLe
    have hb : ((L0.length : Int) == 1) = true := by rw [h1]; rfl
    replace hLe := Lib.hid hLe
    replace h1 := Lib.hid h1
    go_enter Tryz.func186, Tryz.ntmps186
    go_wp2_with (first | (go_at_call 191; refine ( hL0.out ▸ ref1_split path 47 _ (by omega)).mono ?_; rintro e w1 ⟨v, rfl, hst, hb⟩; obtain ⟨hc, hfz⟩ := bcell hb; have hz := hb.size; (try simp at hz); (try have hz0 := lt_ hb w.heap.size); (try have hz1 := lt_ hb (w.heap.size + 1)); (try have hz2 := lt_ hb (w.heap.size + 2)); (try have hz3 := lt_ hb (w.heap.size + 3)); obtain ⟨lb, lc, hlc, hlm, hlB, hlv, _, hlcell⟩ := hst.at_; obtain rfl := hlv ( hpos); obtain ⟨hlb, hlB⟩ := hlB ( hpos)) | (at_builtin; refine wpList_app rfl _ _ rfl w.heap.size L0 _ rfl (hst.alloc _) [] _ rfl ?_ (by omega) (by simp; omega) ?_))
    case refine_1 => go_simp
    rintro v' W hown' hW
    rw [← hLe.out] at hown'
    have hB : Below w.heap.size w W := (hb.alloc hz _).trans hW
    obtain ⟨mb, mc, hmc, hmm, hmB, hmv, _, hmcell⟩ := hown'.at_
    obtain rfl := hmv (by omega)
    obtain ⟨hmb, hmB⟩ := hmB (by omega)
    replace hmcell := Lib.hid hmcell
    clear hmv hown' hst hlv hc hfz hlcell hW
    go_wp2
    go_loopw [4, 5] (fun v i wr => ∃ (k : Nat) (out : List (List UInt8)), 1 ≤ k ∧ k ≤ L.length ∧ i = .int .i64 k ∧ Own wr W.heap.size v out ∧ Below W.heap.size W wr ∧
        Hid (R = Gl.slashed (Gl.cleanGo out (L.drop k))) ∧ (Gl.slashed out).length + (Gl.slashed (L.drop k)).length ≤ 1000001) (fun _ i _ => L.length - (intOf i).toNat)
    case atStart => exact ⟨1, [], Nat.le_refl _, by omega, rfl, Own.nil _ _, Below.refl _ _, hR, by simpa [Gl.slashed] using hsl⟩
    case round =>
      obtain ⟨k, out, hk1', hk, rfl, hown, hW, hr, hbd⟩ := hrel
      have hsz := hW.size
      have hol := len_slashed out
      by_cases hlt : k < L.length
      · have hck : wr.cell? ⟨mb, k, none⟩ = some (.string ⟨(L[k]).toArray⟩) := (hW.cell (p := ⟨mb, k, none⟩) hmB).trans (hmcell.out k hlt)
        rw [drop_consL hlt, cleanGo_step] at hr
        have hbd2 := stepOut_len out L[k] (L.drop (k + 1)).isEmpty
        have hol' : out.length ≤ 1000002 := by omega
        clear hol
        rw [drop_consL hlt, slashed_cons] at hbd
        have hbd3 : (Gl.slashed (stepOut out L[k] (L.drop (k + 1)).isEmpty)).length + (Gl.slashed (L.drop (k + 1))).length ≤ 1000001 := by
          simp at hbd; omega
        clear hbd hbd2
        have hbd := hbd3
        clear hbd3
        replace hbd := Lib.hid hbd
        obtain ⟨ob, oc, hoc, hom, hoB, hov, hov0, _⟩ := hown.at_
        by_cases ho : 0 < out.length
        · obtain rfl := hov ho
          clear hov hov0 hoB
          by_cases hdd : L[k] = [46, 46]
          · have hk1 := Lib.hid hdd
            have hb1 : (L[k] == ([46, 46] : List UInt8)) = true := by rw [hdd]; rfl
            have hb2 : (L[k] != ([46, 46] : List UInt8)) = false := by rw [hdd]; rfl
            clear hdd
            by_cases hlast : k + 1 = L.length
            · have hle : Hid ((L.drop (k + 1)).isEmpty = true) := Lib.hid (by rw [List.drop_eq_nil_of_le (by omega)]; rfl)
              have hbl : ((k : Int) == (L.length : Int) - 1) = true := by rw [beq_iff_eq]; omega
              clear hlast
              have hstep : Hid (stepOut out L[k] (L.drop (k + 1)).isEmpty = out.dropLast ++ [[]]) := Lib.hid (by rw [hle.out, stepOut]; simp [hk1.out])
              have hcut := own_cut hown (out.length - 1) (by omega)
              rw [← List.dropLast_eq_take] at hcut
              replace hcut := Lib.hid hcut
              go_wp2_with (at_builtin; refine wpList_app rfl _ _ rfl W.heap.size out.dropLast _ rfl (hcut.out.alloc _) [] _ rfl ?_ (by simp at *; omega) (by simp; omega) ?_)
              case refine_1 => go_simp
              rintro v' w' hown' hw'
              have hW' := (hW.alloc hsz _).trans hw'
              go_wp2
              go_roundw
              case rel => exact ⟨k + 1, _, by omega, by omega, by go_num, hown', hW', Lib.hid (hr.out.trans (by rw [hstep.out])), by have := hbd.out; rw [hstep.out] at this; exact this⟩
              case measure => simp [intOf]; omega
            · have hle : Hid ((L.drop (k + 1)).isEmpty = false) := Lib.hid (by rw [drop_consL (show k + 1 < L.length by omega)]; rfl)
              have hbl : ((k : Int) == (L.length : Int) - 1) = false := by rw [beq_eq_false_iff_ne]; omega
              clear hlast
              have hstep : Hid (stepOut out L[k] (L.drop (k + 1)).isEmpty = out.dropLast) := Lib.hid (by rw [hle.out, stepOut]; simp [hk1.out])
              have hcut := own_cut hown (out.length - 1) (by omega)
              rw [← List.dropLast_eq_take] at hcut
              replace hcut := Lib.hid hcut
              have hown' := hcut.out
              have hW' := hW
              replace hown' := Lib.hid hown'
              go_wp2
              go_roundw
              case rel => exact ⟨k + 1, _, by omega, by omega, by go_num, hown'.out, hW', Lib.hid (hr.out.trans (by rw [hstep.out])), by have := hbd.out; rw [hstep.out] at this; exact this⟩
              case measure => simp [intOf]; omega
          · have hb1 : (L[k] == ([46, 46] : List UInt8)) = false := by rw [beq_eq_false_iff_ne]; exact hdd
            have hb2 : (L[k] != ([46, 46] : List UInt8)) = true := by rw [bne_iff_ne]; exact hdd
            by_cases hd : L[k] = [46]
            · have hk1 := Lib.hid hd
              have hb3 : (L[k] == ([46] : List UInt8)) = true := by rw [hd]; rfl
              clear hdd hd
              by_cases hlast : k + 1 = L.length
              · have hle : Hid ((L.drop (k + 1)).isEmpty = true) := Lib.hid (by rw [List.drop_eq_nil_of_le (by omega)]; rfl)
                have hbl : ((k : Int) == (L.length : Int) - 1) = true := by rw [beq_iff_eq]; omega
                clear hlast
                have hstep : Hid (stepOut out L[k] (L.drop (k + 1)).isEmpty = out ++ [[]]) := Lib.hid (by rw [hle.out, stepOut]; simp [hk1.out])
                go_wp2_with (at_builtin; refine wpList_app rfl _ _ rfl W.heap.size out _ rfl (hown.alloc _) [] _ rfl ?_ (by simp at *; omega) (by simp; omega) ?_)
                case refine_1 => go_simp
                rintro v' w' hown' hw'
                have hW' := (hW.alloc hsz _).trans hw'
                go_wp2
                go_roundw
                case rel => exact ⟨k + 1, _, by omega, by omega, by go_num, hown', hW', Lib.hid (hr.out.trans (by rw [hstep.out])), by have := hbd.out; rw [hstep.out] at this; exact this⟩
                case measure => simp [intOf]; omega
              · have hle : Hid ((L.drop (k + 1)).isEmpty = false) := Lib.hid (by rw [drop_consL (show k + 1 < L.length by omega)]; rfl)
                have hbl : ((k : Int) == (L.length : Int) - 1) = false := by rw [beq_eq_false_iff_ne]; omega
                clear hlast
                have hstep : Hid (stepOut out L[k] (L.drop (k + 1)).isEmpty = out) := Lib.hid (by rw [hle.out, stepOut]; simp [hk1.out])
                have hown' := Lib.hid hown
                have hW' := hW
                go_wp2
                go_roundw
                case rel => exact ⟨k + 1, _, by omega, by omega, by go_num, hown'.out, hW', Lib.hid (hr.out.trans (by rw [hstep.out])), by have := hbd.out; rw [hstep.out] at this; exact this⟩
                case measure => simp [intOf]; omega
            · have hk1 := Lib.hid (And.intro hdd hd)
              have hb3 : (L[k] == ([46] : List UInt8)) = false := by rw [beq_eq_false_iff_ne]; exact hd
              clear hdd hd
              have hstep : Hid (stepOut out L[k] (L.drop (k + 1)).isEmpty = out ++ [L[k]]) := Lib.hid (by rw [stepOut, if_neg hk1.out.1, if_neg hk1.out.2])
              go_wp2_with (at_builtin; refine wpList_app rfl _ _ rfl W.heap.size out _ rfl (hown.alloc _) L[k] _ rfl ?_ (by simp at *; omega) (by simp; omega) ?_)
              case refine_1 => go_simp
              rintro v' w' hown' hw'
              have hW' := (hW.alloc hsz _).trans hw'
              go_wp2
              go_roundw
              case rel => exact ⟨k + 1, _, by omega, by omega, by go_num, hown', hW', Lib.hid (hr.out.trans (by rw [hstep.out])), by have := hbd.out; rw [hstep.out] at this; exact this⟩
              case measure => simp [intOf]; omega
        · obtain ⟨A, c, rfl⟩ := hov0 (by omega)
          have hnil : Hid (out = []) := Lib.hid (List.eq_nil_of_length_eq_zero (by omega))
          have ho0 : out.length = 0 := by omega
          clear hov hov0 hoB
          replace ho0 := Lib.hid ho0
          by_cases hdd : L[k] = [46, 46]
          · have hk1 := Lib.hid hdd
            have hb1 : (L[k] == ([46, 46] : List UInt8)) = true := by rw [hdd]; rfl
            have hb2 : (L[k] != ([46, 46] : List UInt8)) = false := by rw [hdd]; rfl
            clear hdd
            by_cases hlast : k + 1 = L.length
            · have hle : Hid ((L.drop (k + 1)).isEmpty = true) := Lib.hid (by rw [List.drop_eq_nil_of_le (by omega)]; rfl)
              have hbl : ((k : Int) == (L.length : Int) - 1) = true := by rw [beq_iff_eq]; omega
              clear hlast
              have hstep : Hid (stepOut out L[k] (L.drop (k + 1)).isEmpty = out.dropLast ++ [[]]) := Lib.hid (by rw [hle.out, stepOut]; simp [hk1.out])
              have hdl : Hid (out.dropLast = out) := Lib.hid (by rw [hnil.out]; rfl)
              rw [hdl.out] at hstep
              go_wp2_with (at_builtin; refine wpList_app rfl _ _ rfl W.heap.size out _ rfl (hown.alloc _) [] _ rfl ?_ (by simp at *; omega) (by simp; omega) ?_)
              case refine_1 => go_simp
              rintro v' w' hown' hw'
              have hW' := (hW.alloc hsz _).trans hw'
              go_wp2
              go_roundw
              case rel => exact ⟨k + 1, _, by omega, by omega, by go_num, hown', hW', Lib.hid (hr.out.trans (by rw [hstep.out])), by have := hbd.out; rw [hstep.out] at this; exact this⟩
              case measure => simp [intOf]; omega
            · have hle : Hid ((L.drop (k + 1)).isEmpty = false) := Lib.hid (by rw [drop_consL (show k + 1 < L.length by omega)]; rfl)
              have hbl : ((k : Int) == (L.length : Int) - 1) = false := by rw [beq_eq_false_iff_ne]; omega
              clear hlast
              have hstep : Hid (stepOut out L[k] (L.drop (k + 1)).isEmpty = out.dropLast) := Lib.hid (by rw [hle.out, stepOut]; simp [hk1.out])
              have hdl : Hid (out.dropLast = out) := Lib.hid (by rw [hnil.out]; rfl)
              rw [hdl.out] at hstep
              have hown' := Lib.hid hown
              have hW' := hW
              go_wp2
              go_roundw
              case rel => exact ⟨k + 1, _, by omega, by omega, by go_num, hown'.out, hW', Lib.hid (hr.out.trans (by rw [hstep.out])), by have := hbd.out; rw [hstep.out] at this; exact this⟩
              case measure => simp [intOf]; omega
          · have hb1 : (L[k] == ([46, 46] : List UInt8)) = false := by rw [beq_eq_false_iff_ne]; exact hdd
            have hb2 : (L[k] != ([46, 46] : List UInt8)) = true := by rw [bne_iff_ne]; exact hdd
            by_cases hd : L[k] = [46]
            · have hk1 := Lib.hid hd
              have hb3 : (L[k] == ([46] : List UInt8)) = true := by rw [hd]; rfl
              clear hdd hd
              by_cases hlast : k + 1 = L.length
              · have hle : Hid ((L.drop (k + 1)).isEmpty = true) := Lib.hid (by rw [List.drop_eq_nil_of_le (by omega)]; rfl)
                have hbl : ((k : Int) == (L.length : Int) - 1) = true := by rw [beq_iff_eq]; omega
                clear hlast
                have hstep : Hid (stepOut out L[k] (L.drop (k + 1)).isEmpty = out ++ [[]]) := Lib.hid (by rw [hle.out, stepOut]; simp [hk1.out])
                go_wp2_with (at_builtin; refine wpList_app rfl _ _ rfl W.heap.size out _ rfl (hown.alloc _) [] _ rfl ?_ (by simp at *; omega) (by simp; omega) ?_)
                case refine_1 => go_simp
                rintro v' w' hown' hw'
                have hW' := (hW.alloc hsz _).trans hw'
                go_wp2
                go_roundw
                case rel => exact ⟨k + 1, _, by omega, by omega, by go_num, hown', hW', Lib.hid (hr.out.trans (by rw [hstep.out])), by have := hbd.out; rw [hstep.out] at this; exact this⟩
                case measure => simp [intOf]; omega
              · have hle : Hid ((L.drop (k + 1)).isEmpty = false) := Lib.hid (by rw [drop_consL (show k + 1 < L.length by omega)]; rfl)
                have hbl : ((k : Int) == (L.length : Int) - 1) = false := by rw [beq_eq_false_iff_ne]; omega
                clear hlast
                have hstep : Hid (stepOut out L[k] (L.drop (k + 1)).isEmpty = out) := Lib.hid (by rw [hle.out, stepOut]; simp [hk1.out])
                have hown' := Lib.hid hown
                have hW' := hW
                go_wp2
                go_roundw
                case rel => exact ⟨k + 1, _, by omega, by omega, by go_num, hown'.out, hW', Lib.hid (hr.out.trans (by rw [hstep.out])), by have := hbd.out; rw [hstep.out] at this; exact this⟩
                case measure => simp [intOf]; omega
            · have hk1 := Lib.hid (And.intro hdd hd)
              have hb3 : (L[k] == ([46] : List UInt8)) = false := by rw [beq_eq_false_iff_ne]; exact hd
              clear hdd hd
              have hstep : Hid (stepOut out L[k] (L.drop (k + 1)).isEmpty = out ++ [L[k]]) := Lib.hid (by rw [stepOut, if_neg hk1.out.1, if_neg hk1.out.2])
              go_wp2_with (at_builtin; refine wpList_app rfl _ _ rfl W.heap.size out _ rfl (hown.alloc _) L[k] _ rfl ?_ (by simp at *; omega) (by simp; omega) ?_)
              case refine_1 => go_simp
              rintro v' w' hown' hw'
              have hW' := (hW.alloc hsz _).trans hw'
              go_wp2
              go_roundw
              case rel => exact ⟨k + 1, _, by omega, by omega, by go_num, hown', hW', Lib.hid (hr.out.trans (by rw [hstep.out])), by have := hbd.out; rw [hstep.out] at this; exact this⟩
              case measure => simp [intOf]; omega
      · rw [List.drop_eq_nil_of_le (by omega)] at hr
        obtain ⟨ob, oc, hoc, hom, hoB, hov, hov0, hocell⟩ := hown.at_
        replace hr : Hid (R = Gl.slashed out) := Lib.hid (hr.out.trans (by simp [Gl.cleanGo]))
        rw [List.drop_eq_nil_of_le (by omega)] at hbd
        replace hbd : (Gl.slashed out).length ≤ 1000001 := by simp [Gl.slashed] at hbd ⊢; omega
        obtain ⟨A, oc', rfl⟩ := own_slice hown
        clear hov0 hown
        replace hov := Lib.hid hov
        replace hocell := Lib.hid hocell
        have hBr : Below w.heap.size w wr := hB.trans (hW.mono hB.size)
        replace hBr := Lib.hid hBr
        have hol' : out.length ≤ 1000001 := by omega
        clear hmcell hmB hmb hmc hmm hR hoB hol
        have hkL : k = L.length := by omega
        subst hkL
        clear hk hlt
        have hltf : decide (L.length < L.length) = false := by simp
        clear hlb hlB hlc hlm
        go_wp2
        clear hltf
        go_loop [6, 7] (fun t i => ∃ k : Nat, k ≤ out.length ∧ i = .int .i64 k ∧ t = (Value.string ⟨(Gl.slashed (out.take k)).toArray⟩)) (fun _ i => out.length - (intOf i).toNat)
        case atStart => exact ⟨0, by omega, rfl, by simp [Gl.slashed]⟩
        case round =>
          obtain ⟨k, hk, rfl, rfl⟩ := hrel
          have htl := slashed_take out k
          by_cases hlt : k < out.length
          · have e := hov.out (by omega)
            injection e with e1
            subst e1
            have hck := hocell.out k hlt
            have hst : Hid (Gl.slashed (out.take (k + 1)) = Gl.slashed (out.take k) ++ 47 :: out[k]) := Lib.hid (by rw [List.take_succ_eq_append_getElem hlt, slashed_append]; simp [Gl.slashed])
            have htl2 := slashed_take out (k + 1)
            rw [hst.out] at htl2
            simp at htl2
            go_wp2
            go_round
            case rel => exact ⟨k + 1, by omega, by go_num, by rw [hst.out]⟩
            case measure => simp [intOf]; omega
          · rw [List.take_of_length_le (by omega)]
            go_wp2
            go_ret
            exact ⟨by rw [hr.out]; rfl, hBr.out⟩
  · rw [if_neg h1] at hLe
    obtain rfl : L = L0 := hLe
    have hb : ((L.length : Int) == 1) = false := by rw [beq_eq_false_iff_ne]; omega
    replace h1 := Lib.hid h1
    go_enter Tryz.func186, Tryz.ntmps186
    go_wp2_with (first | (go_at_call 191; refine ( hL0.out ▸ ref1_split path 47 _ (by omega)).mono ?_; rintro e w1 ⟨v, rfl, hst, hb⟩; obtain ⟨hc, hfz⟩ := bcell hb; have hz := hb.size; (try simp at hz); (try have hz0 := lt_ hb w.heap.size); (try have hz1 := lt_ hb (w.heap.size + 1)); (try have hz2 := lt_ hb (w.heap.size + 2)); (try have hz3 := lt_ hb (w.heap.size + 3)); obtain ⟨lb, lc, hlc, hlm, hlB, hlv, _, hlcell⟩ := hst.at_; obtain rfl := hlv ( hpos); obtain ⟨hlb, hlB⟩ := hlB ( hpos)))
    replace hlcell := Lib.hid hlcell
    go_loopw [4, 5] (fun v i wr => ∃ (k : Nat) (out : List (List UInt8)), 1 ≤ k ∧ k ≤ L.length ∧ i = .int .i64 k ∧ Own wr w1.heap.size v out ∧ Below w1.heap.size w1 wr ∧
        Hid (R = Gl.slashed (Gl.cleanGo out (L.drop k))) ∧ (Gl.slashed out).length + (Gl.slashed (L.drop k)).length ≤ 1000001) (fun _ i _ => L.length - (intOf i).toNat)
    case atStart => exact ⟨1, [], Nat.le_refl _, by omega, rfl, Own.nil _ _, Below.refl _ _, hR, by simpa [Gl.slashed] using hsl⟩
    case round =>
      obtain ⟨k, out, hk1', hk, rfl, hown, hW, hr, hbd⟩ := hrel
      have hsz := hW.size
      have hol := len_slashed out
      by_cases hlt : k < L.length
      · have hck : wr.cell? ⟨lb, k, none⟩ = some (.string ⟨(L[k]).toArray⟩) := (hW.cell (p := ⟨lb, k, none⟩) hlB).trans (hlcell.out k hlt)
        rw [drop_consL hlt, cleanGo_step] at hr
        have hbd2 := stepOut_len out L[k] (L.drop (k + 1)).isEmpty
        have hol' : out.length ≤ 1000002 := by omega
        clear hol
        rw [drop_consL hlt, slashed_cons] at hbd
        have hbd3 : (Gl.slashed (stepOut out L[k] (L.drop (k + 1)).isEmpty)).length + (Gl.slashed (L.drop (k + 1))).length ≤ 1000001 := by
          simp at hbd; omega
        clear hbd hbd2
        have hbd := hbd3
        clear hbd3
        replace hbd := Lib.hid hbd
        obtain ⟨ob, oc, hoc, hom, hoB, hov, hov0, _⟩ := hown.at_
        by_cases ho : 0 < out.length
        · obtain rfl := hov ho
          clear hov hov0 hoB
          by_cases hdd : L[k] = [46, 46]
          · have hk1 := Lib.hid hdd
            have hb1 : (L[k] == ([46, 46] : List UInt8)) = true := by rw [hdd]; rfl
            have hb2 : (L[k] != ([46, 46] : List UInt8)) = false := by rw [hdd]; rfl
            clear hdd
            by_cases hlast : k + 1 = L.length
            · have hle : Hid ((L.drop (k + 1)).isEmpty = true) := Lib.hid (by rw [List.drop_eq_nil_of_le (by omega)]; rfl)
              have hbl : ((k : Int) == (L.length : Int) - 1) = true := by rw [beq_iff_eq]; omega
              clear hlast
              have hstep : Hid (stepOut out L[k] (L.drop (k + 1)).isEmpty = out.dropLast ++ [[]]) := Lib.hid (by rw [hle.out, stepOut]; simp [hk1.out])
              have hcut := own_cut hown (out.length - 1) (by omega)
              rw [← List.dropLast_eq_take] at hcut
              replace hcut := Lib.hid hcut
              go_wp2_with (at_builtin; refine wpList_app rfl _ _ rfl w1.heap.size out.dropLast _ rfl (hcut.out.alloc _) [] _ rfl ?_ (by simp at *; omega) (by simp; omega) ?_)
              case refine_1 => go_simp
              rintro v' w' hown' hw'
              have hW' := (hW.alloc hsz _).trans hw'
              go_wp2
              go_roundw
              case rel => exact ⟨k + 1, _, by omega, by omega, by go_num, hown', hW', Lib.hid (hr.out.trans (by rw [hstep.out])), by have := hbd.out; rw [hstep.out] at this; exact this⟩
              case measure => simp [intOf]; omega
            · have hle : Hid ((L.drop (k + 1)).isEmpty = false) := Lib.hid (by rw [drop_consL (show k + 1 < L.length by omega)]; rfl)
              have hbl : ((k : Int) == (L.length : Int) - 1) = false := by rw [beq_eq_false_iff_ne]; omega
              clear hlast
              have hstep : Hid (stepOut out L[k] (L.drop (k + 1)).isEmpty = out.dropLast) := Lib.hid (by rw [hle.out, stepOut]; simp [hk1.out])
              have hcut := own_cut hown (out.length - 1) (by omega)
              rw [← List.dropLast_eq_take] at hcut
              replace hcut := Lib.hid hcut
              have hown' := hcut.out
              have hW' := hW
              replace hown' := Lib.hid hown'
              go_wp2
              go_roundw
              case rel => exact ⟨k + 1, _, by omega, by omega, by go_num, hown'.out, hW', Lib.hid (hr.out.trans (by rw [hstep.out])), by have := hbd.out; rw [hstep.out] at this; exact this⟩
              case measure => simp [intOf]; omega
          · have hb1 : (L[k] == ([46, 46] : List UInt8)) = false := by rw [beq_eq_false_iff_ne]; exact hdd
            have hb2 : (L[k] != ([46, 46] : List UInt8)) = true := by rw [bne_iff_ne]; exact hdd
            by_cases hd : L[k] = [46]
            · have hk1 := Lib.hid hd
              have hb3 : (L[k] == ([46] : List UInt8)) = true := by rw [hd]; rfl
              clear hdd hd
              by_cases hlast : k + 1 = L.length
              · have hle : Hid ((L.drop (k + 1)).isEmpty = true) := Lib.hid (by rw [List.drop_eq_nil_of_le (by omega)]; rfl)
                have hbl : ((k : Int) == (L.length : Int) - 1) = true := by rw [beq_iff_eq]; omega
                clear hlast
                have hstep : Hid (stepOut out L[k] (L.drop (k + 1)).isEmpty = out ++ [[]]) := Lib.hid (by rw [hle.out, stepOut]; simp [hk1.out])
                go_wp2_with (at_builtin; refine wpList_app rfl _ _ rfl w1.heap.size out _ rfl (hown.alloc _) [] _ rfl ?_ (by simp at *; omega) (by simp; omega) ?_)
                case refine_1 => go_simp
                rintro v' w' hown' hw'
                have hW' := (hW.alloc hsz _).trans hw'
                go_wp2
                go_roundw
                case rel => exact ⟨k + 1, _, by omega, by omega, by go_num, hown', hW', Lib.hid (hr.out.trans (by rw [hstep.out])), by have := hbd.out; rw [hstep.out] at this; exact this⟩
                case measure => simp [intOf]; omega
              · have hle : Hid ((L.drop (k + 1)).isEmpty = false) := Lib.hid (by rw [drop_consL (show k + 1 < L.length by omega)]; rfl)
                have hbl : ((k : Int) == (L.length : Int) - 1) = false := by rw [beq_eq_false_iff_ne]; omega
                clear hlast
                have hstep : Hid (stepOut out L[k] (L.drop (k + 1)).isEmpty = out) := Lib.hid (by rw [hle.out, stepOut]; simp [hk1.out])
                have hown' := Lib.hid hown
                have hW' := hW
                go_wp2
                go_roundw
                case rel => exact ⟨k + 1, _, by omega, by omega, by go_num, hown'.out, hW', Lib.hid (hr.out.trans (by rw [hstep.out])), by have := hbd.out; rw [hstep.out] at this; exact this⟩
                case measure => simp [intOf]; omega
            · have hk1 := Lib.hid (And.intro hdd hd)
              have hb3 : (L[k] == ([46] : List UInt8)) = false := by rw [beq_eq_false_iff_ne]; exact hd
              clear hdd hd
              have hstep : Hid (stepOut out L[k] (L.drop (k + 1)).isEmpty = out ++ [L[k]]) := Lib.hid (by rw [stepOut, if_neg hk1.out.1, if_neg hk1.out.2])
              go_wp2_with (at_builtin; refine wpList_app rfl _ _ rfl w1.heap.size out _ rfl (hown.alloc _) L[k] _ rfl ?_ (by simp at *; omega) (by simp; omega) ?_)
              case refine_1 => go_simp
              rintro v' w' hown' hw'
              have hW' := (hW.alloc hsz _).trans hw'
              go_wp2
              go_roundw
              case rel => exact ⟨k + 1, _, by omega, by omega, by go_num, hown', hW', Lib.hid (hr.out.trans (by rw [hstep.out])), by have := hbd.out; rw [hstep.out] at this; exact this⟩
              case measure => simp [intOf]; omega
        · obtain ⟨A, c, rfl⟩ := hov0 (by omega)
          have hnil : Hid (out = []) := Lib.hid (List.eq_nil_of_length_eq_zero (by omega))
          have ho0 : out.length = 0 := by omega
          clear hov hov0 hoB
          replace ho0 := Lib.hid ho0
          by_cases hdd : L[k] = [46, 46]
          · have hk1 := Lib.hid hdd
            have hb1 : (L[k] == ([46, 46] : List UInt8)) = true := by rw [hdd]; rfl
            have hb2 : (L[k] != ([46, 46] : List UInt8)) = false := by rw [hdd]; rfl
            clear hdd
            by_cases hlast : k + 1 = L.length
            · have hle : Hid ((L.drop (k + 1)).isEmpty = true) := Lib.hid (by rw [List.drop_eq_nil_of_le (by omega)]; rfl)
              have hbl : ((k : Int) == (L.length : Int) - 1) = true := by rw [beq_iff_eq]; omega
              clear hlast
              have hstep : Hid (stepOut out L[k] (L.drop (k + 1)).isEmpty = out.dropLast ++ [[]]) := Lib.hid (by rw [hle.out, stepOut]; simp [hk1.out])
              have hdl : Hid (out.dropLast = out) := Lib.hid (by rw [hnil.out]; rfl)
              rw [hdl.out] at hstep
              go_wp2_with (at_builtin; refine wpList_app rfl _ _ rfl w1.heap.size out _ rfl (hown.alloc _) [] _ rfl ?_ (by simp at *; omega) (by simp; omega) ?_)
              case refine_1 => go_simp
              rintro v' w' hown' hw'
              have hW' := (hW.alloc hsz _).trans hw'
              go_wp2
              go_roundw
              case rel => exact ⟨k + 1, _, by omega, by omega, by go_num, hown', hW', Lib.hid (hr.out.trans (by rw [hstep.out])), by have := hbd.out; rw [hstep.out] at this; exact this⟩
              case measure => simp [intOf]; omega
            · have hle : Hid ((L.drop (k + 1)).isEmpty = false) := Lib.hid (by rw [drop_consL (show k + 1 < L.length by omega)]; rfl)
              have hbl : ((k : Int) == (L.length : Int) - 1) = false := by rw [beq_eq_false_iff_ne]; omega
              clear hlast
              have hstep : Hid (stepOut out L[k] (L.drop (k + 1)).isEmpty = out.dropLast) := Lib.hid (by rw [hle.out, stepOut]; simp [hk1.out])
              have hdl : Hid (out.dropLast = out) := Lib.hid (by rw [hnil.out]; rfl)
              rw [hdl.out] at hstep
              have hown' := Lib.hid hown
              have hW' := hW
              go_wp2
              go_roundw
              case rel => exact ⟨k + 1, _, by omega, by omega, by go_num, hown'.out, hW', Lib.hid (hr.out.trans (by rw [hstep.out])), by have := hbd.out; rw [hstep.out] at this; exact this⟩
              case measure => simp [intOf]; omega
          · have hb1 : (L[k] == ([46, 46] : List UInt8)) = false := by rw [beq_eq_false_iff_ne]; exact hdd
            have hb2 : (L[k] != ([46, 46] : List UInt8)) = true := by rw [bne_iff_ne]; exact hdd
            by_cases hd : L[k] = [46]
            · have hk1 := Lib.hid hd
              have hb3 : (L[k] == ([46] : List UInt8)) = true := by rw [hd]; rfl
              clear hdd hd
              by_cases hlast : k + 1 = L.length
              · have hle : Hid ((L.drop (k + 1)).isEmpty = true) := Lib.hid (by rw [List.drop_eq_nil_of_le (by omega)]; rfl)
                have hbl : ((k : Int) == (L.length : Int) - 1) = true := by rw [beq_iff_eq]; omega
                clear hlast
                have hstep : Hid (stepOut out L[k] (L.drop (k + 1)).isEmpty = out ++ [[]]) := Lib.hid (by rw [hle.out, stepOut]; simp [hk1.out])
                go_wp2_with (at_builtin; refine wpList_app rfl _ _ rfl w1.heap.size out _ rfl (hown.alloc _) [] _ rfl ?_ (by simp at *; omega) (by simp; omega) ?_)
                case refine_1 => go_simp
                rintro v' w' hown' hw'
                have hW' := (hW.alloc hsz _).trans hw'
                go_wp2
                go_roundw
                case rel => exact ⟨k + 1, _, by omega, by omega, by go_num, hown', hW', Lib.hid (hr.out.trans (by rw [hstep.out])), by have := hbd.out; rw [hstep.out] at this; exact this⟩
                case measure => simp [intOf]; omega
              · have hle : Hid ((L.drop (k + 1)).isEmpty = false) := Lib.hid (by rw [drop_consL (show k + 1 < L.length by omega)]; rfl)
                have hbl : ((k : Int) == (L.length : Int) - 1) = false := by rw [beq_eq_false_iff_ne]; omega
                clear hlast
                have hstep : Hid (stepOut out L[k] (L.drop (k + 1)).isEmpty = out) := Lib.hid (by rw [hle.out, stepOut]; simp [hk1.out])
                have hown' := Lib.hid hown
                have hW' := hW
                go_wp2
                go_roundw
                case rel => exact ⟨k + 1, _, by omega, by omega, by go_num, hown'.out, hW', Lib.hid (hr.out.trans (by rw [hstep.out])), by have := hbd.out; rw [hstep.out] at this; exact this⟩
                case measure => simp [intOf]; omega
            · have hk1 := Lib.hid (And.intro hdd hd)
              have hb3 : (L[k] == ([46] : List UInt8)) = false := by rw [beq_eq_false_iff_ne]; exact hd
              clear hdd hd
              have hstep : Hid (stepOut out L[k] (L.drop (k + 1)).isEmpty = out ++ [L[k]]) := Lib.hid (by rw [stepOut, if_neg hk1.out.1, if_neg hk1.out.2])
              go_wp2_with (at_builtin; refine wpList_app rfl _ _ rfl w1.heap.size out _ rfl (hown.alloc _) L[k] _ rfl ?_ (by simp at *; omega) (by simp; omega) ?_)
              case refine_1 => go_simp
              rintro v' w' hown' hw'
              have hW' := (hW.alloc hsz _).trans hw'
              go_wp2
              go_roundw
              case rel => exact ⟨k + 1, _, by omega, by omega, by go_num, hown', hW', Lib.hid (hr.out.trans (by rw [hstep.out])), by have := hbd.out; rw [hstep.out] at this; exact this⟩
              case measure => simp [intOf]; omega
      · rw [List.drop_eq_nil_of_le (by omega)] at hr
        obtain ⟨ob, oc, hoc, hom, hoB, hov, hov0, hocell⟩ := hown.at_
        replace hr : Hid (R = Gl.slashed out) := Lib.hid (hr.out.trans (by simp [Gl.cleanGo]))
        rw [List.drop_eq_nil_of_le (by omega)] at hbd
        replace hbd : (Gl.slashed out).length ≤ 1000001 := by simp [Gl.slashed] at hbd ⊢; omega
        obtain ⟨A, oc', rfl⟩ := own_slice hown
        clear hov0 hown
        replace hov := Lib.hid hov
        replace hocell := Lib.hid hocell
        have hBr : Below w.heap.size w wr := hb.trans (hW.mono hb.size)
        replace hBr := Lib.hid hBr
        have hol' : out.length ≤ 1000001 := by omega
        clear hlcell hlB hlb hlc hlm hR hoB hol
        have hkL : k = L.length := by omega
        subst hkL
        clear hk hlt
        have hltf : decide (L.length < L.length) = false := by simp
        go_wp2
        clear hltf
        go_loop [6, 7] (fun t i => ∃ k : Nat, k ≤ out.length ∧ i = .int .i64 k ∧ t = (Value.string ⟨(Gl.slashed (out.take k)).toArray⟩)) (fun _ i => out.length - (intOf i).toNat)
        case atStart => exact ⟨0, by omega, rfl, by simp [Gl.slashed]⟩
        case round =>
          obtain ⟨k, hk, rfl, rfl⟩ := hrel
          have htl := slashed_take out k
          by_cases hlt : k < out.length
          · have e := hov.out (by omega)
            injection e with e1
            subst e1
            have hck := hocell.out k hlt
            have hst : Hid (Gl.slashed (out.take (k + 1)) = Gl.slashed (out.take k) ++ 47 :: out[k]) := Lib.hid (by rw [List.take_succ_eq_append_getElem hlt, slashed_append]; simp [Gl.slashed])
            have htl2 := slashed_take out (k + 1)
            rw [hst.out] at htl2
            simp at htl2
            go_wp2
            go_round
            case rel => exact ⟨k + 1, by omega, by go_num, by rw [hst.out]⟩
            case measure => simp [intOf]; omega
          · rw [List.take_of_length_le (by omega)]
            go_wp2
            go_ret
            exact ⟨by rw [hr.out]; rfl, hBr.out⟩
end Go.Proofs.YtbafofldgkigmaaGreatDoor
namespace Go.Proofs.YtbafofldgkigmaaGreatDoor
open Go.RowKit
attribute [local irreducible] Calls

set_option maxHeartbeats 2000000 in
set_option maxRecDepth 100000 in
theorem ref3_web (u : Gl.URL) (rest : List UInt8) (w : World) (hs : rest.length ≤ 1000000) (huq : u.hasQuery = false) (huy : u.query = []) :
    Calls Tryz.prog 148 #[(Value.agg #[(Value.string ⟨((u).scheme).toArray⟩), (Value.string ⟨(((u).host).name).toArray⟩), (Value.bool ((u).host).v4), (Value.int .u32 (((u).host).addr : Int)), (Value.int .i64 (u).port), (Value.string ⟨((u).path).toArray⟩), (Value.bool (u).hasQuery), (Value.string ⟨((u).query).toArray⟩), (Value.string ⟨((u).rest).toArray⟩)]), (Value.string ⟨(rest).toArray⟩)] w (Ret w (.tuple #[(Value.agg #[(Value.string ⟨(((Gl.web u rest).1).scheme).toArray⟩), (Value.string ⟨((((Gl.web u rest).1).host).name).toArray⟩), (Value.bool (((Gl.web u rest).1).host).v4), (Value.int .u32 ((((Gl.web u rest).1).host).addr : Int)), (Value.int .i64 ((Gl.web u rest).1).port), (Value.string ⟨(((Gl.web u rest).1).path).toArray⟩), (Value.bool ((Gl.web u rest).1).hasQuery), (Value.string ⟨(((Gl.web u rest).1).query).toArray⟩), (Value.string ⟨(((Gl.web u rest).1).rest).toArray⟩)]), .int .i64 (Gl.web u rest).2])) := by
  have hW1 := web_slash u rest
  have hA := web_at u rest
  have hM := web_more u rest
  generalize Gl.web u rest = R at *
  cases hb : ([47, 47] : List UInt8).isPrefixOf rest with
  | false =>
    have hR := Lib.hid (hW1 hb)
    clear hM hA hW1
    go_enter Tryz.func148, Tryz.ntmps148
    go_wp2_with (first | (go_at_call 149; refine ( hb ▸ ref3_begins rest [47, 47] _).mono ?_; rintro e w1 ⟨rfl, rfl⟩) | (go_at_call 145; refine (ref3_fails 30 _).mono ?_; rintro e w1 ⟨rfl, hb⟩; obtain ⟨hc, hfz⟩ := bcell hb; have hz := hb.size; (try simp at hz); (try have hz0 := lt_ hb w.heap.size); (try have hz1 := lt_ hb (w.heap.size + 1)); (try have hz2 := lt_ hb (w.heap.size + 2)); (try have hz3 := lt_ hb (w.heap.size + 3)); (try have hcA := fun o => hc w.heap.size o sz_); (try have hcB := fun o => hc (w.heap.size + 1) o sz_)))
    refine bodyPost_ret (v := (.tuple #[(Value.agg #[(Value.string ⟨#[]⟩), (Value.string ⟨#[]⟩), (Value.bool false), (Value.int .u32 0), (Value.int .i64 0), (Value.string ⟨#[]⟩), (Value.bool false), (Value.string ⟨#[]⟩), (Value.string ⟨#[]⟩)]), .int .i64 30])) (by simp only [results, Tryz.results148]; go_simp) rfl ⟨by rw [ hR.out] <;> rfl, ?_⟩; (exact bw_)
  | true =>
    have h2 := prefix2_len hb
    replace hM := hM hb
    have hrl : (rest.drop 2).length ≤ 281474976710656 := by rw [List.length_drop]; omega
    have hsl := span_len [47, 63] (rest.drop 2)
    have hpath := span_path (rest.drop 2)
    rw [List.length_drop] at hsl
    generalize hab : Gl.span [47, 63] (rest.drop 2) = ab at *
    obtain ⟨a, b⟩ := ab
    simp only at hM hsl hpath hA
    replace hab := Lib.hid hab
    have hal : a.length ≤ 281474976710656 := by omega
    have hbl2 : b.length ≤ 281474976710656 := by omega
    cases hat : a.contains 64 with
    | true =>
      have hR := Lib.hid (hA hat)
      clear hM hpath hA hW1
      go_enter Tryz.func148, Tryz.ntmps148
      go_wp2_with (first | (go_at_call 149; refine ( hb ▸ ref3_begins rest [47, 47] _).mono ?_; rintro e w1 ⟨rfl, rfl⟩) | (go_at_call 145; refine (ref3_fails 30 _).mono ?_; rintro e w1 ⟨rfl, hb⟩; obtain ⟨hc, hfz⟩ := bcell hb; have hz := hb.size; (try simp at hz); (try have hz0 := lt_ hb w.heap.size); (try have hz1 := lt_ hb (w.heap.size + 1)); (try have hz2 := lt_ hb (w.heap.size + 2)); (try have hz3 := lt_ hb (w.heap.size + 3)); (try have hcA := fun o => hc w.heap.size o sz_); (try have hcB := fun o => hc (w.heap.size + 1) o sz_)) | (go_at_call 146; refine (hab.out ▸ ref3_cut (rest.drop 2) [47, 63] _ hrl (by decide)).mono ?_; rintro e w1 ⟨rfl, hb⟩; obtain ⟨hc, hfz⟩ := bcell hb; have hz := hb.size; (try simp at hz); (try have hz0 := lt_ hb w.heap.size); (try have hz1 := lt_ hb (w.heap.size + 1)); (try have hz2 := lt_ hb (w.heap.size + 2)); (try have hz3 := lt_ hb (w.heap.size + 3)); (try have hcA := fun o => hc w.heap.size o sz_); (try have hcB := fun o => hc (w.heap.size + 1) o sz_)) | (go_at_call 181; refine ( ref1_in_at 64 a _ (by omega) hat).mono ?_; rintro e w1 ⟨rfl, rfl⟩))
      refine bodyPost_ret (v := (.tuple #[(Value.agg #[(Value.string ⟨#[]⟩), (Value.string ⟨#[]⟩), (Value.bool false), (Value.int .u32 0), (Value.int .i64 0), (Value.string ⟨#[]⟩), (Value.bool false), (Value.string ⟨#[]⟩), (Value.string ⟨#[]⟩)]), .int .i64 30])) (by simp only [results, Tryz.results148]; go_simp) rfl ⟨by rw [ hR.out] <;> rfl, ?_⟩; (exact bw_)
    | false =>
      replace hM := hM hat
      clear hA hW1
      have hnl := span_len [58] a
      generalize hnp : Gl.span [58] a = np at *
      obtain ⟨nm, p⟩ := np
      have hbl := span_len [63] b
      generalize hpq : Gl.span [63] b = pq at *
      obtain ⟨pa, q⟩ := pq
      simp only at hM hnl hbl hpath
      simp only [List.drop_one] at hM
      generalize hh : Gl.hostParse nm = h at *
      obtain ⟨h, e⟩ := h
      generalize hcl : Gl.clean pa = cl at *
      generalize ho : Gl.own u.scheme = o at *
      simp only at hM
      replace hnp := Lib.hid hnp
      replace hpq := Lib.hid hpq
      replace hh := Lib.hid hh
      replace hcl := Lib.hid hcl
      replace ho := Lib.hid ho
      replace hpath := Lib.hid hpath
      by_cases he : e = 0
      · have he1 : (e != 0) = false := by rw [he]; rfl
        rw [if_neg (fun h => h he)] at hM
        replace he := Lib.hid he
        by_cases hp1 : 1 < p.length
        · rw [if_pos hp1] at hM
          cases hn : Gl.number p.tail 65535 with
          | none =>
            rw [hn] at hM
            replace hM : Hid (R = ({}, 32)) := Lib.hid hM
            replace hn := Lib.hid hn
            go_enter Tryz.func148, Tryz.ntmps148
            go_wp2_with (first | (go_at_call 149; refine ( hb ▸ ref3_begins rest [47, 47] _).mono ?_; rintro e w1 ⟨rfl, rfl⟩) | (go_at_call 145; refine (ref3_fails 32 _).mono ?_; rintro e w1 ⟨rfl, hb⟩; obtain ⟨hc, hfz⟩ := bcell hb; have hz := hb.size; (try simp at hz); (try have hz0 := lt_ hb w.heap.size); (try have hz1 := lt_ hb (w.heap.size + 1)); (try have hz2 := lt_ hb (w.heap.size + 2)); (try have hz3 := lt_ hb (w.heap.size + 3)); (try have hcA := fun o => hc w.heap.size o sz_); (try have hcB := fun o => hc (w.heap.size + 1) o sz_)) | (go_at_call 146; refine (hab.out ▸ ref3_cut (rest.drop 2) [47, 63] _ hrl (by decide)).mono ?_; rintro e w1 ⟨rfl, hb⟩; obtain ⟨hc, hfz⟩ := bcell hb; have hz := hb.size; (try simp at hz); (try have hz0 := lt_ hb w.heap.size); (try have hz1 := lt_ hb (w.heap.size + 1)); (try have hz2 := lt_ hb (w.heap.size + 2)); (try have hz3 := lt_ hb (w.heap.size + 3)); (try have hcA := fun o => hc w.heap.size o sz_); (try have hcB := fun o => hc (w.heap.size + 1) o sz_)) | (go_at_call 181; refine ( ref1_in_at 64 a _ (by omega) hat).mono ?_; rintro e w1 ⟨rfl, rfl⟩) | (go_at_call 146; refine (hnp.out ▸ ref3_cut a [58] _ hal (by decide)).mono ?_; rintro e w1 ⟨rfl, hb⟩; obtain ⟨hc, hfz⟩ := bcell hb; have hz := hb.size; (try simp at hz); (try have hz0 := lt_ hb w.heap.size); (try have hz1 := lt_ hb (w.heap.size + 1)); (try have hz2 := lt_ hb (w.heap.size + 2)); (try have hz3 := lt_ hb (w.heap.size + 3)); (try have hcA := fun o => hc w.heap.size o sz_); (try have hcB := fun o => hc (w.heap.size + 1) o sz_)) | (go_at_call 184; refine (hh.out ▸ ref2_parse nm _ (by omega)).mono ?_; rintro e w1 ⟨rfl, hb⟩; obtain ⟨hc, hfz⟩ := bcell hb; have hz := hb.size; (try simp at hz); (try have hz0 := lt_ hb w.heap.size); (try have hz1 := lt_ hb (w.heap.size + 1)); (try have hz2 := lt_ hb (w.heap.size + 2)); (try have hz3 := lt_ hb (w.heap.size + 3)); (try have hcA := fun o => hc w.heap.size o sz_); (try have hcB := fun o => hc (w.heap.size + 1) o sz_)) | (go_at_call 185; refine ( ref1_number_none p.tail 65535 _ (by rw [List.length_tail]; omega) (by omega) (by omega) hn.out).mono ?_; rintro e w1 ⟨rfl, rfl⟩))
            refine bodyPost_ret (v := (.tuple #[(Value.agg #[(Value.string ⟨#[]⟩), (Value.string ⟨#[]⟩), (Value.bool false), (Value.int .u32 0), (Value.int .i64 0), (Value.string ⟨#[]⟩), (Value.bool false), (Value.string ⟨#[]⟩), (Value.string ⟨#[]⟩)]), .int .i64 32])) (by simp only [results, Tryz.results148]; go_simp) rfl ⟨by rw [ hM.out] <;> rfl, ?_⟩; (exact bw_)
          | some n =>
            rw [hn] at hM
            obtain ⟨hn0, hn1⟩ := number_range (by omega) hn
            replace hn := Lib.hid hn
            by_cases hno : n = o
            · have hno1 : (n != o) = false := by rw [hno]; simp
              simp only [if_pos hno] at hM
              replace hM := Lib.hid hM
              replace hno := Lib.hid hno
              cases q with
              | nil =>
                replace hM : Hid (R = ({ u with host := h, port := u.port, path := cl, hasQuery := false, query := [] }, 0)) := hM
                go_enter Tryz.func148, Tryz.ntmps148
                go_wp2_with (first | (go_at_call 149; refine ( hb ▸ ref3_begins rest [47, 47] _).mono ?_; rintro e w1 ⟨rfl, rfl⟩) | (go_at_call 145; refine (ref3_fails 0 _).mono ?_; rintro e w1 ⟨rfl, hb⟩; obtain ⟨hc, hfz⟩ := bcell hb; have hz := hb.size; (try simp at hz); (try have hz0 := lt_ hb w.heap.size); (try have hz1 := lt_ hb (w.heap.size + 1)); (try have hz2 := lt_ hb (w.heap.size + 2)); (try have hz3 := lt_ hb (w.heap.size + 3)); (try have hcA := fun o => hc w.heap.size o sz_); (try have hcB := fun o => hc (w.heap.size + 1) o sz_)) | (go_at_call 146; refine (hab.out ▸ ref3_cut (rest.drop 2) [47, 63] _ hrl (by decide)).mono ?_; rintro e w1 ⟨rfl, hb⟩; obtain ⟨hc, hfz⟩ := bcell hb; have hz := hb.size; (try simp at hz); (try have hz0 := lt_ hb w.heap.size); (try have hz1 := lt_ hb (w.heap.size + 1)); (try have hz2 := lt_ hb (w.heap.size + 2)); (try have hz3 := lt_ hb (w.heap.size + 3)); (try have hcA := fun o => hc w.heap.size o sz_); (try have hcB := fun o => hc (w.heap.size + 1) o sz_)) | (go_at_call 181; refine ( ref1_in_at 64 a _ (by omega) hat).mono ?_; rintro e w1 ⟨rfl, rfl⟩) | (go_at_call 146; refine (hnp.out ▸ ref3_cut a [58] _ hal (by decide)).mono ?_; rintro e w1 ⟨rfl, hb⟩; obtain ⟨hc, hfz⟩ := bcell hb; have hz := hb.size; (try simp at hz); (try have hz0 := lt_ hb w.heap.size); (try have hz1 := lt_ hb (w.heap.size + 1)); (try have hz2 := lt_ hb (w.heap.size + 2)); (try have hz3 := lt_ hb (w.heap.size + 3)); (try have hcA := fun o => hc w.heap.size o sz_); (try have hcB := fun o => hc (w.heap.size + 1) o sz_)) | (go_at_call 184; refine (hh.out ▸ ref2_parse nm _ (by omega)).mono ?_; rintro e w1 ⟨rfl, hb⟩; obtain ⟨hc, hfz⟩ := bcell hb; have hz := hb.size; (try simp at hz); (try have hz0 := lt_ hb w.heap.size); (try have hz1 := lt_ hb (w.heap.size + 1)); (try have hz2 := lt_ hb (w.heap.size + 2)); (try have hz3 := lt_ hb (w.heap.size + 3)); (try have hcA := fun o => hc w.heap.size o sz_); (try have hcB := fun o => hc (w.heap.size + 1) o sz_)) | (go_at_call 185; refine ( ref1_number_some p.tail 65535 n _ (by rw [List.length_tail]; omega) (by omega) (by omega) hn.out).mono ?_; rintro e w1 ⟨rfl, rfl⟩) | (go_at_call 97; refine ( ho.out ▸ ref3_own u.scheme _).mono ?_; rintro e w1 ⟨rfl, rfl⟩) | (go_at_call 146; refine (hpq.out ▸ ref3_cut b [63] _ hbl2 (by decide)).mono ?_; rintro e w1 ⟨rfl, hb⟩; obtain ⟨hc, hfz⟩ := bcell hb; have hz := hb.size; (try simp at hz); (try have hz0 := lt_ hb w.heap.size); (try have hz1 := lt_ hb (w.heap.size + 1)); (try have hz2 := lt_ hb (w.heap.size + 2)); (try have hz3 := lt_ hb (w.heap.size + 3)); (try have hcA := fun o => hc w.heap.size o sz_); (try have hcB := fun o => hc (w.heap.size + 1) o sz_)) | (go_at_call 186; refine (hcl.out ▸ ref3_clean pa _ (by omega) hpath.out).mono ?_; rintro e w1 ⟨rfl, hb⟩; obtain ⟨hc, hfz⟩ := bcell hb; have hz := hb.size; (try simp at hz); (try have hz0 := lt_ hb w.heap.size); (try have hz1 := lt_ hb (w.heap.size + 1)); (try have hz2 := lt_ hb (w.heap.size + 2)); (try have hz3 := lt_ hb (w.heap.size + 3)); (try have hcA := fun o => hc w.heap.size o sz_); (try have hcB := fun o => hc (w.heap.size + 1) o sz_)))
                refine bodyPost_ret (v := (.tuple #[(Value.agg #[(Value.string ⟨(u.scheme).toArray⟩), (Value.string ⟨((h).name).toArray⟩), (Value.bool (h).v4), (Value.int .u32 ((h).addr : Int)), (Value.int .i64 u.port), (Value.string ⟨(cl).toArray⟩), (Value.bool false), (Value.string ⟨([]).toArray⟩), (Value.string ⟨(u.rest).toArray⟩)]), .int .i64 0])) (by simp only [results, Tryz.results148]; go_simp) rfl ⟨by rw [ hM.out] <;> rfl, ?_⟩; (exact bw_)
              | cons c q =>
                replace hM : Hid (R = ({ u with host := h, port := u.port, path := cl, hasQuery := true, query := q }, 0)) := hM
                simp only [List.length_cons] at hbl
                go_enter Tryz.func148, Tryz.ntmps148
                go_wp2_with (first | (go_at_call 149; refine ( hb ▸ ref3_begins rest [47, 47] _).mono ?_; rintro e w1 ⟨rfl, rfl⟩) | (go_at_call 145; refine (ref3_fails 0 _).mono ?_; rintro e w1 ⟨rfl, hb⟩; obtain ⟨hc, hfz⟩ := bcell hb; have hz := hb.size; (try simp at hz); (try have hz0 := lt_ hb w.heap.size); (try have hz1 := lt_ hb (w.heap.size + 1)); (try have hz2 := lt_ hb (w.heap.size + 2)); (try have hz3 := lt_ hb (w.heap.size + 3)); (try have hcA := fun o => hc w.heap.size o sz_); (try have hcB := fun o => hc (w.heap.size + 1) o sz_)) | (go_at_call 146; refine (hab.out ▸ ref3_cut (rest.drop 2) [47, 63] _ hrl (by decide)).mono ?_; rintro e w1 ⟨rfl, hb⟩; obtain ⟨hc, hfz⟩ := bcell hb; have hz := hb.size; (try simp at hz); (try have hz0 := lt_ hb w.heap.size); (try have hz1 := lt_ hb (w.heap.size + 1)); (try have hz2 := lt_ hb (w.heap.size + 2)); (try have hz3 := lt_ hb (w.heap.size + 3)); (try have hcA := fun o => hc w.heap.size o sz_); (try have hcB := fun o => hc (w.heap.size + 1) o sz_)) | (go_at_call 181; refine ( ref1_in_at 64 a _ (by omega) hat).mono ?_; rintro e w1 ⟨rfl, rfl⟩) | (go_at_call 146; refine (hnp.out ▸ ref3_cut a [58] _ hal (by decide)).mono ?_; rintro e w1 ⟨rfl, hb⟩; obtain ⟨hc, hfz⟩ := bcell hb; have hz := hb.size; (try simp at hz); (try have hz0 := lt_ hb w.heap.size); (try have hz1 := lt_ hb (w.heap.size + 1)); (try have hz2 := lt_ hb (w.heap.size + 2)); (try have hz3 := lt_ hb (w.heap.size + 3)); (try have hcA := fun o => hc w.heap.size o sz_); (try have hcB := fun o => hc (w.heap.size + 1) o sz_)) | (go_at_call 184; refine (hh.out ▸ ref2_parse nm _ (by omega)).mono ?_; rintro e w1 ⟨rfl, hb⟩; obtain ⟨hc, hfz⟩ := bcell hb; have hz := hb.size; (try simp at hz); (try have hz0 := lt_ hb w.heap.size); (try have hz1 := lt_ hb (w.heap.size + 1)); (try have hz2 := lt_ hb (w.heap.size + 2)); (try have hz3 := lt_ hb (w.heap.size + 3)); (try have hcA := fun o => hc w.heap.size o sz_); (try have hcB := fun o => hc (w.heap.size + 1) o sz_)) | (go_at_call 185; refine ( ref1_number_some p.tail 65535 n _ (by rw [List.length_tail]; omega) (by omega) (by omega) hn.out).mono ?_; rintro e w1 ⟨rfl, rfl⟩) | (go_at_call 97; refine ( ho.out ▸ ref3_own u.scheme _).mono ?_; rintro e w1 ⟨rfl, rfl⟩) | (go_at_call 146; refine (hpq.out ▸ ref3_cut b [63] _ hbl2 (by decide)).mono ?_; rintro e w1 ⟨rfl, hb⟩; obtain ⟨hc, hfz⟩ := bcell hb; have hz := hb.size; (try simp at hz); (try have hz0 := lt_ hb w.heap.size); (try have hz1 := lt_ hb (w.heap.size + 1)); (try have hz2 := lt_ hb (w.heap.size + 2)); (try have hz3 := lt_ hb (w.heap.size + 3)); (try have hcA := fun o => hc w.heap.size o sz_); (try have hcB := fun o => hc (w.heap.size + 1) o sz_)) | (go_at_call 186; refine (hcl.out ▸ ref3_clean pa _ (by omega) hpath.out).mono ?_; rintro e w1 ⟨rfl, hb⟩; obtain ⟨hc, hfz⟩ := bcell hb; have hz := hb.size; (try simp at hz); (try have hz0 := lt_ hb w.heap.size); (try have hz1 := lt_ hb (w.heap.size + 1)); (try have hz2 := lt_ hb (w.heap.size + 2)); (try have hz3 := lt_ hb (w.heap.size + 3)); (try have hcA := fun o => hc w.heap.size o sz_); (try have hcB := fun o => hc (w.heap.size + 1) o sz_)))
                refine bodyPost_ret (v := (.tuple #[(Value.agg #[(Value.string ⟨(u.scheme).toArray⟩), (Value.string ⟨((h).name).toArray⟩), (Value.bool (h).v4), (Value.int .u32 ((h).addr : Int)), (Value.int .i64 u.port), (Value.string ⟨(cl).toArray⟩), (Value.bool true), (Value.string ⟨(q).toArray⟩), (Value.string ⟨(u.rest).toArray⟩)]), .int .i64 0])) (by simp only [results, Tryz.results148]; go_simp) rfl ⟨by rw [ hM.out] <;> rfl, ?_⟩; (exact bw_)
            · have hno1 : (n != o) = true := by rw [bne_iff_ne]; exact hno
              simp only [if_neg hno] at hM
              replace hM := Lib.hid hM
              replace hno := Lib.hid hno
              cases q with
              | nil =>
                replace hM : Hid (R = ({ u with host := h, port := n, path := cl, hasQuery := false, query := [] }, 0)) := hM
                go_enter Tryz.func148, Tryz.ntmps148
                go_wp2_with (first | (go_at_call 149; refine ( hb ▸ ref3_begins rest [47, 47] _).mono ?_; rintro e w1 ⟨rfl, rfl⟩) | (go_at_call 145; refine (ref3_fails 0 _).mono ?_; rintro e w1 ⟨rfl, hb⟩; obtain ⟨hc, hfz⟩ := bcell hb; have hz := hb.size; (try simp at hz); (try have hz0 := lt_ hb w.heap.size); (try have hz1 := lt_ hb (w.heap.size + 1)); (try have hz2 := lt_ hb (w.heap.size + 2)); (try have hz3 := lt_ hb (w.heap.size + 3)); (try have hcA := fun o => hc w.heap.size o sz_); (try have hcB := fun o => hc (w.heap.size + 1) o sz_)) | (go_at_call 146; refine (hab.out ▸ ref3_cut (rest.drop 2) [47, 63] _ hrl (by decide)).mono ?_; rintro e w1 ⟨rfl, hb⟩; obtain ⟨hc, hfz⟩ := bcell hb; have hz := hb.size; (try simp at hz); (try have hz0 := lt_ hb w.heap.size); (try have hz1 := lt_ hb (w.heap.size + 1)); (try have hz2 := lt_ hb (w.heap.size + 2)); (try have hz3 := lt_ hb (w.heap.size + 3)); (try have hcA := fun o => hc w.heap.size o sz_); (try have hcB := fun o => hc (w.heap.size + 1) o sz_)) | (go_at_call 181; refine ( ref1_in_at 64 a _ (by omega) hat).mono ?_; rintro e w1 ⟨rfl, rfl⟩) | (go_at_call 146; refine (hnp.out ▸ ref3_cut a [58] _ hal (by decide)).mono ?_; rintro e w1 ⟨rfl, hb⟩; obtain ⟨hc, hfz⟩ := bcell hb; have hz := hb.size; (try simp at hz); (try have hz0 := lt_ hb w.heap.size); (try have hz1 := lt_ hb (w.heap.size + 1)); (try have hz2 := lt_ hb (w.heap.size + 2)); (try have hz3 := lt_ hb (w.heap.size + 3)); (try have hcA := fun o => hc w.heap.size o sz_); (try have hcB := fun o => hc (w.heap.size + 1) o sz_)) | (go_at_call 184; refine (hh.out ▸ ref2_parse nm _ (by omega)).mono ?_; rintro e w1 ⟨rfl, hb⟩; obtain ⟨hc, hfz⟩ := bcell hb; have hz := hb.size; (try simp at hz); (try have hz0 := lt_ hb w.heap.size); (try have hz1 := lt_ hb (w.heap.size + 1)); (try have hz2 := lt_ hb (w.heap.size + 2)); (try have hz3 := lt_ hb (w.heap.size + 3)); (try have hcA := fun o => hc w.heap.size o sz_); (try have hcB := fun o => hc (w.heap.size + 1) o sz_)) | (go_at_call 185; refine ( ref1_number_some p.tail 65535 n _ (by rw [List.length_tail]; omega) (by omega) (by omega) hn.out).mono ?_; rintro e w1 ⟨rfl, rfl⟩) | (go_at_call 97; refine ( ho.out ▸ ref3_own u.scheme _).mono ?_; rintro e w1 ⟨rfl, rfl⟩) | (go_at_call 146; refine (hpq.out ▸ ref3_cut b [63] _ hbl2 (by decide)).mono ?_; rintro e w1 ⟨rfl, hb⟩; obtain ⟨hc, hfz⟩ := bcell hb; have hz := hb.size; (try simp at hz); (try have hz0 := lt_ hb w.heap.size); (try have hz1 := lt_ hb (w.heap.size + 1)); (try have hz2 := lt_ hb (w.heap.size + 2)); (try have hz3 := lt_ hb (w.heap.size + 3)); (try have hcA := fun o => hc w.heap.size o sz_); (try have hcB := fun o => hc (w.heap.size + 1) o sz_)) | (go_at_call 186; refine (hcl.out ▸ ref3_clean pa _ (by omega) hpath.out).mono ?_; rintro e w1 ⟨rfl, hb⟩; obtain ⟨hc, hfz⟩ := bcell hb; have hz := hb.size; (try simp at hz); (try have hz0 := lt_ hb w.heap.size); (try have hz1 := lt_ hb (w.heap.size + 1)); (try have hz2 := lt_ hb (w.heap.size + 2)); (try have hz3 := lt_ hb (w.heap.size + 3)); (try have hcA := fun o => hc w.heap.size o sz_); (try have hcB := fun o => hc (w.heap.size + 1) o sz_)))
                refine bodyPost_ret (v := (.tuple #[(Value.agg #[(Value.string ⟨(u.scheme).toArray⟩), (Value.string ⟨((h).name).toArray⟩), (Value.bool (h).v4), (Value.int .u32 ((h).addr : Int)), (Value.int .i64 n), (Value.string ⟨(cl).toArray⟩), (Value.bool false), (Value.string ⟨([]).toArray⟩), (Value.string ⟨(u.rest).toArray⟩)]), .int .i64 0])) (by simp only [results, Tryz.results148]; go_simp) rfl ⟨by rw [ hM.out] <;> rfl, ?_⟩; (exact bw_)
              | cons c q =>
                replace hM : Hid (R = ({ u with host := h, port := n, path := cl, hasQuery := true, query := q }, 0)) := hM
                simp only [List.length_cons] at hbl
                go_enter Tryz.func148, Tryz.ntmps148
                go_wp2_with (first | (go_at_call 149; refine ( hb ▸ ref3_begins rest [47, 47] _).mono ?_; rintro e w1 ⟨rfl, rfl⟩) | (go_at_call 145; refine (ref3_fails 0 _).mono ?_; rintro e w1 ⟨rfl, hb⟩; obtain ⟨hc, hfz⟩ := bcell hb; have hz := hb.size; (try simp at hz); (try have hz0 := lt_ hb w.heap.size); (try have hz1 := lt_ hb (w.heap.size + 1)); (try have hz2 := lt_ hb (w.heap.size + 2)); (try have hz3 := lt_ hb (w.heap.size + 3)); (try have hcA := fun o => hc w.heap.size o sz_); (try have hcB := fun o => hc (w.heap.size + 1) o sz_)) | (go_at_call 146; refine (hab.out ▸ ref3_cut (rest.drop 2) [47, 63] _ hrl (by decide)).mono ?_; rintro e w1 ⟨rfl, hb⟩; obtain ⟨hc, hfz⟩ := bcell hb; have hz := hb.size; (try simp at hz); (try have hz0 := lt_ hb w.heap.size); (try have hz1 := lt_ hb (w.heap.size + 1)); (try have hz2 := lt_ hb (w.heap.size + 2)); (try have hz3 := lt_ hb (w.heap.size + 3)); (try have hcA := fun o => hc w.heap.size o sz_); (try have hcB := fun o => hc (w.heap.size + 1) o sz_)) | (go_at_call 181; refine ( ref1_in_at 64 a _ (by omega) hat).mono ?_; rintro e w1 ⟨rfl, rfl⟩) | (go_at_call 146; refine (hnp.out ▸ ref3_cut a [58] _ hal (by decide)).mono ?_; rintro e w1 ⟨rfl, hb⟩; obtain ⟨hc, hfz⟩ := bcell hb; have hz := hb.size; (try simp at hz); (try have hz0 := lt_ hb w.heap.size); (try have hz1 := lt_ hb (w.heap.size + 1)); (try have hz2 := lt_ hb (w.heap.size + 2)); (try have hz3 := lt_ hb (w.heap.size + 3)); (try have hcA := fun o => hc w.heap.size o sz_); (try have hcB := fun o => hc (w.heap.size + 1) o sz_)) | (go_at_call 184; refine (hh.out ▸ ref2_parse nm _ (by omega)).mono ?_; rintro e w1 ⟨rfl, hb⟩; obtain ⟨hc, hfz⟩ := bcell hb; have hz := hb.size; (try simp at hz); (try have hz0 := lt_ hb w.heap.size); (try have hz1 := lt_ hb (w.heap.size + 1)); (try have hz2 := lt_ hb (w.heap.size + 2)); (try have hz3 := lt_ hb (w.heap.size + 3)); (try have hcA := fun o => hc w.heap.size o sz_); (try have hcB := fun o => hc (w.heap.size + 1) o sz_)) | (go_at_call 185; refine ( ref1_number_some p.tail 65535 n _ (by rw [List.length_tail]; omega) (by omega) (by omega) hn.out).mono ?_; rintro e w1 ⟨rfl, rfl⟩) | (go_at_call 97; refine ( ho.out ▸ ref3_own u.scheme _).mono ?_; rintro e w1 ⟨rfl, rfl⟩) | (go_at_call 146; refine (hpq.out ▸ ref3_cut b [63] _ hbl2 (by decide)).mono ?_; rintro e w1 ⟨rfl, hb⟩; obtain ⟨hc, hfz⟩ := bcell hb; have hz := hb.size; (try simp at hz); (try have hz0 := lt_ hb w.heap.size); (try have hz1 := lt_ hb (w.heap.size + 1)); (try have hz2 := lt_ hb (w.heap.size + 2)); (try have hz3 := lt_ hb (w.heap.size + 3)); (try have hcA := fun o => hc w.heap.size o sz_); (try have hcB := fun o => hc (w.heap.size + 1) o sz_)) | (go_at_call 186; refine (hcl.out ▸ ref3_clean pa _ (by omega) hpath.out).mono ?_; rintro e w1 ⟨rfl, hb⟩; obtain ⟨hc, hfz⟩ := bcell hb; have hz := hb.size; (try simp at hz); (try have hz0 := lt_ hb w.heap.size); (try have hz1 := lt_ hb (w.heap.size + 1)); (try have hz2 := lt_ hb (w.heap.size + 2)); (try have hz3 := lt_ hb (w.heap.size + 3)); (try have hcA := fun o => hc w.heap.size o sz_); (try have hcB := fun o => hc (w.heap.size + 1) o sz_)))
                refine bodyPost_ret (v := (.tuple #[(Value.agg #[(Value.string ⟨(u.scheme).toArray⟩), (Value.string ⟨((h).name).toArray⟩), (Value.bool (h).v4), (Value.int .u32 ((h).addr : Int)), (Value.int .i64 n), (Value.string ⟨(cl).toArray⟩), (Value.bool true), (Value.string ⟨(q).toArray⟩), (Value.string ⟨(u.rest).toArray⟩)]), .int .i64 0])) (by simp only [results, Tryz.results148]; go_simp) rfl ⟨by rw [ hM.out] <;> rfl, ?_⟩; (exact bw_)
        · rw [if_neg hp1] at hM
          replace hM := Lib.hid hM
          cases q with
          | nil =>
            replace hM : Hid (R = ({ u with host := h, port := u.port, path := cl, hasQuery := false, query := [] }, 0)) := hM
            go_enter Tryz.func148, Tryz.ntmps148
            go_wp2_with (first | (go_at_call 149; refine ( hb ▸ ref3_begins rest [47, 47] _).mono ?_; rintro e w1 ⟨rfl, rfl⟩) | (go_at_call 145; refine (ref3_fails 0 _).mono ?_; rintro e w1 ⟨rfl, hb⟩; obtain ⟨hc, hfz⟩ := bcell hb; have hz := hb.size; (try simp at hz); (try have hz0 := lt_ hb w.heap.size); (try have hz1 := lt_ hb (w.heap.size + 1)); (try have hz2 := lt_ hb (w.heap.size + 2)); (try have hz3 := lt_ hb (w.heap.size + 3)); (try have hcA := fun o => hc w.heap.size o sz_); (try have hcB := fun o => hc (w.heap.size + 1) o sz_)) | (go_at_call 146; refine (hab.out ▸ ref3_cut (rest.drop 2) [47, 63] _ hrl (by decide)).mono ?_; rintro e w1 ⟨rfl, hb⟩; obtain ⟨hc, hfz⟩ := bcell hb; have hz := hb.size; (try simp at hz); (try have hz0 := lt_ hb w.heap.size); (try have hz1 := lt_ hb (w.heap.size + 1)); (try have hz2 := lt_ hb (w.heap.size + 2)); (try have hz3 := lt_ hb (w.heap.size + 3)); (try have hcA := fun o => hc w.heap.size o sz_); (try have hcB := fun o => hc (w.heap.size + 1) o sz_)) | (go_at_call 181; refine ( ref1_in_at 64 a _ (by omega) hat).mono ?_; rintro e w1 ⟨rfl, rfl⟩) | (go_at_call 146; refine (hnp.out ▸ ref3_cut a [58] _ hal (by decide)).mono ?_; rintro e w1 ⟨rfl, hb⟩; obtain ⟨hc, hfz⟩ := bcell hb; have hz := hb.size; (try simp at hz); (try have hz0 := lt_ hb w.heap.size); (try have hz1 := lt_ hb (w.heap.size + 1)); (try have hz2 := lt_ hb (w.heap.size + 2)); (try have hz3 := lt_ hb (w.heap.size + 3)); (try have hcA := fun o => hc w.heap.size o sz_); (try have hcB := fun o => hc (w.heap.size + 1) o sz_)) | (go_at_call 184; refine (hh.out ▸ ref2_parse nm _ (by omega)).mono ?_; rintro e w1 ⟨rfl, hb⟩; obtain ⟨hc, hfz⟩ := bcell hb; have hz := hb.size; (try simp at hz); (try have hz0 := lt_ hb w.heap.size); (try have hz1 := lt_ hb (w.heap.size + 1)); (try have hz2 := lt_ hb (w.heap.size + 2)); (try have hz3 := lt_ hb (w.heap.size + 3)); (try have hcA := fun o => hc w.heap.size o sz_); (try have hcB := fun o => hc (w.heap.size + 1) o sz_)) | (go_at_call 146; refine (hpq.out ▸ ref3_cut b [63] _ hbl2 (by decide)).mono ?_; rintro e w1 ⟨rfl, hb⟩; obtain ⟨hc, hfz⟩ := bcell hb; have hz := hb.size; (try simp at hz); (try have hz0 := lt_ hb w.heap.size); (try have hz1 := lt_ hb (w.heap.size + 1)); (try have hz2 := lt_ hb (w.heap.size + 2)); (try have hz3 := lt_ hb (w.heap.size + 3)); (try have hcA := fun o => hc w.heap.size o sz_); (try have hcB := fun o => hc (w.heap.size + 1) o sz_)) | (go_at_call 186; refine (hcl.out ▸ ref3_clean pa _ (by omega) hpath.out).mono ?_; rintro e w1 ⟨rfl, hb⟩; obtain ⟨hc, hfz⟩ := bcell hb; have hz := hb.size; (try simp at hz); (try have hz0 := lt_ hb w.heap.size); (try have hz1 := lt_ hb (w.heap.size + 1)); (try have hz2 := lt_ hb (w.heap.size + 2)); (try have hz3 := lt_ hb (w.heap.size + 3)); (try have hcA := fun o => hc w.heap.size o sz_); (try have hcB := fun o => hc (w.heap.size + 1) o sz_)))
            refine bodyPost_ret (v := (.tuple #[(Value.agg #[(Value.string ⟨(u.scheme).toArray⟩), (Value.string ⟨((h).name).toArray⟩), (Value.bool (h).v4), (Value.int .u32 ((h).addr : Int)), (Value.int .i64 u.port), (Value.string ⟨(cl).toArray⟩), (Value.bool false), (Value.string ⟨([]).toArray⟩), (Value.string ⟨(u.rest).toArray⟩)]), .int .i64 0])) (by simp only [results, Tryz.results148]; go_simp) rfl ⟨by rw [ hM.out] <;> rfl, ?_⟩; (exact bw_)
          | cons c q =>
            replace hM : Hid (R = ({ u with host := h, port := u.port, path := cl, hasQuery := true, query := q }, 0)) := hM
            simp only [List.length_cons] at hbl
            go_enter Tryz.func148, Tryz.ntmps148
            go_wp2_with (first | (go_at_call 149; refine ( hb ▸ ref3_begins rest [47, 47] _).mono ?_; rintro e w1 ⟨rfl, rfl⟩) | (go_at_call 145; refine (ref3_fails 0 _).mono ?_; rintro e w1 ⟨rfl, hb⟩; obtain ⟨hc, hfz⟩ := bcell hb; have hz := hb.size; (try simp at hz); (try have hz0 := lt_ hb w.heap.size); (try have hz1 := lt_ hb (w.heap.size + 1)); (try have hz2 := lt_ hb (w.heap.size + 2)); (try have hz3 := lt_ hb (w.heap.size + 3)); (try have hcA := fun o => hc w.heap.size o sz_); (try have hcB := fun o => hc (w.heap.size + 1) o sz_)) | (go_at_call 146; refine (hab.out ▸ ref3_cut (rest.drop 2) [47, 63] _ hrl (by decide)).mono ?_; rintro e w1 ⟨rfl, hb⟩; obtain ⟨hc, hfz⟩ := bcell hb; have hz := hb.size; (try simp at hz); (try have hz0 := lt_ hb w.heap.size); (try have hz1 := lt_ hb (w.heap.size + 1)); (try have hz2 := lt_ hb (w.heap.size + 2)); (try have hz3 := lt_ hb (w.heap.size + 3)); (try have hcA := fun o => hc w.heap.size o sz_); (try have hcB := fun o => hc (w.heap.size + 1) o sz_)) | (go_at_call 181; refine ( ref1_in_at 64 a _ (by omega) hat).mono ?_; rintro e w1 ⟨rfl, rfl⟩) | (go_at_call 146; refine (hnp.out ▸ ref3_cut a [58] _ hal (by decide)).mono ?_; rintro e w1 ⟨rfl, hb⟩; obtain ⟨hc, hfz⟩ := bcell hb; have hz := hb.size; (try simp at hz); (try have hz0 := lt_ hb w.heap.size); (try have hz1 := lt_ hb (w.heap.size + 1)); (try have hz2 := lt_ hb (w.heap.size + 2)); (try have hz3 := lt_ hb (w.heap.size + 3)); (try have hcA := fun o => hc w.heap.size o sz_); (try have hcB := fun o => hc (w.heap.size + 1) o sz_)) | (go_at_call 184; refine (hh.out ▸ ref2_parse nm _ (by omega)).mono ?_; rintro e w1 ⟨rfl, hb⟩; obtain ⟨hc, hfz⟩ := bcell hb; have hz := hb.size; (try simp at hz); (try have hz0 := lt_ hb w.heap.size); (try have hz1 := lt_ hb (w.heap.size + 1)); (try have hz2 := lt_ hb (w.heap.size + 2)); (try have hz3 := lt_ hb (w.heap.size + 3)); (try have hcA := fun o => hc w.heap.size o sz_); (try have hcB := fun o => hc (w.heap.size + 1) o sz_)) | (go_at_call 146; refine (hpq.out ▸ ref3_cut b [63] _ hbl2 (by decide)).mono ?_; rintro e w1 ⟨rfl, hb⟩; obtain ⟨hc, hfz⟩ := bcell hb; have hz := hb.size; (try simp at hz); (try have hz0 := lt_ hb w.heap.size); (try have hz1 := lt_ hb (w.heap.size + 1)); (try have hz2 := lt_ hb (w.heap.size + 2)); (try have hz3 := lt_ hb (w.heap.size + 3)); (try have hcA := fun o => hc w.heap.size o sz_); (try have hcB := fun o => hc (w.heap.size + 1) o sz_)) | (go_at_call 186; refine (hcl.out ▸ ref3_clean pa _ (by omega) hpath.out).mono ?_; rintro e w1 ⟨rfl, hb⟩; obtain ⟨hc, hfz⟩ := bcell hb; have hz := hb.size; (try simp at hz); (try have hz0 := lt_ hb w.heap.size); (try have hz1 := lt_ hb (w.heap.size + 1)); (try have hz2 := lt_ hb (w.heap.size + 2)); (try have hz3 := lt_ hb (w.heap.size + 3)); (try have hcA := fun o => hc w.heap.size o sz_); (try have hcB := fun o => hc (w.heap.size + 1) o sz_)))
            refine bodyPost_ret (v := (.tuple #[(Value.agg #[(Value.string ⟨(u.scheme).toArray⟩), (Value.string ⟨((h).name).toArray⟩), (Value.bool (h).v4), (Value.int .u32 ((h).addr : Int)), (Value.int .i64 u.port), (Value.string ⟨(cl).toArray⟩), (Value.bool true), (Value.string ⟨(q).toArray⟩), (Value.string ⟨(u.rest).toArray⟩)]), .int .i64 0])) (by simp only [results, Tryz.results148]; go_simp) rfl ⟨by rw [ hM.out] <;> rfl, ?_⟩; (exact bw_)
      · have he1 : (e != 0) = true := by rw [bne_iff_ne]; exact he
        rw [if_pos he] at hM
        replace hM := Lib.hid hM
        replace he := Lib.hid he
        go_enter Tryz.func148, Tryz.ntmps148
        go_wp2_with (first | (go_at_call 149; refine ( hb ▸ ref3_begins rest [47, 47] _).mono ?_; rintro e w1 ⟨rfl, rfl⟩) | (go_at_call 145; refine (ref3_fails e _).mono ?_; rintro e w1 ⟨rfl, hb⟩; obtain ⟨hc, hfz⟩ := bcell hb; have hz := hb.size; (try simp at hz); (try have hz0 := lt_ hb w.heap.size); (try have hz1 := lt_ hb (w.heap.size + 1)); (try have hz2 := lt_ hb (w.heap.size + 2)); (try have hz3 := lt_ hb (w.heap.size + 3)); (try have hcA := fun o => hc w.heap.size o sz_); (try have hcB := fun o => hc (w.heap.size + 1) o sz_)) | (go_at_call 146; refine (hab.out ▸ ref3_cut (rest.drop 2) [47, 63] _ hrl (by decide)).mono ?_; rintro e w1 ⟨rfl, hb⟩; obtain ⟨hc, hfz⟩ := bcell hb; have hz := hb.size; (try simp at hz); (try have hz0 := lt_ hb w.heap.size); (try have hz1 := lt_ hb (w.heap.size + 1)); (try have hz2 := lt_ hb (w.heap.size + 2)); (try have hz3 := lt_ hb (w.heap.size + 3)); (try have hcA := fun o => hc w.heap.size o sz_); (try have hcB := fun o => hc (w.heap.size + 1) o sz_)) | (go_at_call 181; refine ( ref1_in_at 64 a _ (by omega) hat).mono ?_; rintro e w1 ⟨rfl, rfl⟩) | (go_at_call 146; refine (hnp.out ▸ ref3_cut a [58] _ hal (by decide)).mono ?_; rintro e w1 ⟨rfl, hb⟩; obtain ⟨hc, hfz⟩ := bcell hb; have hz := hb.size; (try simp at hz); (try have hz0 := lt_ hb w.heap.size); (try have hz1 := lt_ hb (w.heap.size + 1)); (try have hz2 := lt_ hb (w.heap.size + 2)); (try have hz3 := lt_ hb (w.heap.size + 3)); (try have hcA := fun o => hc w.heap.size o sz_); (try have hcB := fun o => hc (w.heap.size + 1) o sz_)) | (go_at_call 184; refine (hh.out ▸ ref2_parse nm _ (by omega)).mono ?_; rintro e w1 ⟨rfl, hb⟩; obtain ⟨hc, hfz⟩ := bcell hb; have hz := hb.size; (try simp at hz); (try have hz0 := lt_ hb w.heap.size); (try have hz1 := lt_ hb (w.heap.size + 1)); (try have hz2 := lt_ hb (w.heap.size + 2)); (try have hz3 := lt_ hb (w.heap.size + 3)); (try have hcA := fun o => hc w.heap.size o sz_); (try have hcB := fun o => hc (w.heap.size + 1) o sz_)))
        refine bodyPost_ret (v := (.tuple #[(Value.agg #[(Value.string ⟨#[]⟩), (Value.string ⟨#[]⟩), (Value.bool false), (Value.int .u32 0), (Value.int .i64 0), (Value.string ⟨#[]⟩), (Value.bool false), (Value.string ⟨#[]⟩), (Value.string ⟨#[]⟩)]), .int .i64 e])) (by simp only [results, Tryz.results148]; go_simp) rfl ⟨by rw [ hM.out] <;> rfl, ?_⟩; (exact bw_)
end Go.Proofs.YtbafofldgkigmaaGreatDoor
