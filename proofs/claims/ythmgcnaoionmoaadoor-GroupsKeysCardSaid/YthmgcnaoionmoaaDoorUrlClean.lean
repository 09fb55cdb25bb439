/- urlp.clean. -/
import Derived.Test.YthmgcnaoionmoaaDoorRefClean
import Derived.Test.YthmgcnaoionmoaaDoorLib
import Derived.WalkMore
namespace Go.Proofs.YthmgcnaoionmoaaDoor
open Go.RowKit

theorem own_two {w : World} {B : Nat} {v : Value} {L : List (List UInt8)} (h : Own w B v L) : (L = [] ∧ v = .slice none 0 0) ∨ ∃ g c, v = .slice (some ⟨g, 0, none⟩) L.length c := by
  obtain ⟨hl, h⟩ := h
  rcases h with ⟨rfl, h0⟩ | ⟨g', cap, cur, rfl, _⟩
  · exact Or.inl ⟨List.eq_nil_of_length_eq_zero h0, rfl⟩
  · exact Or.inr ⟨_, _, rfl⟩
theorem stepOut_last (out : List (List UInt8)) (p : List UInt8) : stepOut out p true ≠ [] := by
  unfold stepOut
  split <;> (try split) <;> simp_all
theorem cleanGo_ne (L : List (List UInt8)) : ∀ out, L ≠ [] → Gl.cleanGo out L ≠ [] := by
  induction L with
  | nil => intro out h; exact absurd rfl h
  | cons p r ih =>
    intro out _
    rw [cleanGo_step]
    cases r with
    | nil => simp only [Gl.cleanGo]; exact stepOut_last _ _
    | cons q r => exact ih _ (by simp)
theorem slashed_join (L : List (List UInt8)) (h : L ≠ []) : Gl.slashed L = 47 :: Lib.join L [47] := by
  cases L with
  | nil => exact absurd rfl h
  | cons a r =>
    rw [Lib.join_cons, slashed_cons]
    simp [Gl.slashed, Lib.joinTail, List.flatMap]
theorem drop47 (path : List UInt8) (hp : path = [] ∨ path.head? = some 47) : (if ([47] : List UInt8).isPrefixOf path then path.drop ([47] : List UInt8).length else path) = path.drop 1 := by
  rcases hp with rfl | hp
  · rfl
  · cases path with
    | nil => rfl
    | cons a r =>
      obtain rfl : a = 47 := by simpa using hp
      rfl

set_option maxHeartbeats 4000000 in
set_option maxRecDepth 100000 in
theorem urlp_clean (path : List UInt8) (w : World) (hE : Env w) (hs : path.length ≤ 1000000) (hp : path = [] ∨ path.head? = some 47) :
    Calls Tryd.prog 77 #[(Value.string ⟨(path).toArray⟩)] w (Ret w ((Value.string ⟨(Gl.clean path).toArray⟩))) := by
  have hpl : (path.drop 1).length ≤ 1000000 := by rw [List.length_drop]; omega
  have hlen := split_len 47 (path.drop 1)
  have hpos := split_pos 47 (path.drop 1)
  have hsl := slashed_split 47 (path.drop 1)
  have hRne : Gl.clean path ≠ [] := by
    unfold Gl.clean
    have := cleanGo_ne (Gl.split 47 (path.drop 1)) [] (fun e => by rw [e] at hpos; simp at hpos)
    revert this
    cases Gl.cleanGo [] (Gl.split 47 (path.drop 1)) with
    | nil => intro h; exact absurd rfl h
    | cons a r => intro _; rw [slashed_cons]; simp
  have hR : Gl.clean path = Gl.slashed (Gl.cleanGo [] (Gl.split 47 (path.drop 1))) := rfl
  generalize Gl.clean path = R at *
  replace hR := Lib.hid hR
  replace hRne := Lib.hid hRne
  generalize hL : Gl.split 47 (path.drop 1) = L at *
  replace hL := Lib.hid hL
  generalize hp1 : path.drop 1 = p1 at *
  have h47 : Hid ((if ([47] : List UInt8).isPrefixOf path then path.drop ([47] : List UInt8).length else path) = p1) := Lib.hid (by rw [drop47 path hp]; exact hp1)
  replace hp1 := Lib.hid hp1
  go_enter Tryd.func77, Tryd.ntmps77
  go_wp2_with (first | (go_at_call 102; refine (trimPrefix_any path [47] _).mono ?_; rintro e w1 ⟨rfl, rfl⟩; rw [h47.out]) | (go_at_call 101; refine ( hL.out ▸ splitS_any p1 47 _ hE (by omega)).mono ?_; rintro e w1 ⟨v, rfl, hst, hb⟩; obtain ⟨hc, hfz⟩ := bcell hb; have hz := hb.size; (try simp at hz); (try have hz0 : w.heap.size < w1.heap.size := by omega); (try have hz1 : w.heap.size + 1 < w1.heap.size := by omega); (try have hz2 : w.heap.size + 2 < w1.heap.size := by omega); (try have hz3 : w.heap.size + 3 < w1.heap.size := by omega); obtain ⟨lb, lc, hlc, hlm, hlB, hlv, _, hlcell⟩ := hst.at_; obtain rfl := hlv ( hpos); obtain ⟨hlb, hlB⟩ := hlB ( hpos)))
  all_goals (try go_step3)
  all_goals go_wp2_with (first | (go_at_call 102; refine (trimPrefix_any path [47] _).mono ?_; rintro e w1 ⟨rfl, rfl⟩; rw [h47.out]) | (go_at_call 101; refine ( hL.out ▸ splitS_any p1 47 _ hE (by omega)).mono ?_; rintro e w1 ⟨v, rfl, hst, hb⟩; obtain ⟨hc, hfz⟩ := bcell hb; have hz := hb.size; (try simp at hz); (try have hz0 : w.heap.size < w1.heap.size := by omega); (try have hz1 : w.heap.size + 1 < w1.heap.size := by omega); (try have hz2 : w.heap.size + 2 < w1.heap.size := by omega); (try have hz3 : w.heap.size + 3 < w1.heap.size := by omega); obtain ⟨lb, lc, hlc, hlm, hlB, hlv, _, hlcell⟩ := hst.at_; obtain rfl := hlv ( hpos); obtain ⟨hlb, hlB⟩ := hlB ( hpos)))
  replace hlcell := Lib.hid hlcell
  go_step3
  go_wp2
  go_loopw [3, 12] (fun v i wr => ∃ (k : Nat) (out : List (List UInt8)), k ≤ L.length ∧ i = .int .i64 k ∧ Own wr w1.heap.size v out ∧ Below w1.heap.size w1 wr ∧
      Hid (R = Gl.slashed (Gl.cleanGo out (L.drop k))) ∧ (Gl.slashed out).length + (Gl.slashed (L.drop k)).length ≤ 1000001) (fun _ i _ => L.length - (intOf i).toNat)
  case atStart => exact ⟨0, [], by omega, rfl, Own.nil _ _, Below.refl _ _, hR, by simp [Gl.slashed] at hsl ⊢; omega⟩
  case round =>
    obtain ⟨k, out, hk, rfl, hown, hW, hr, hbd⟩ := hrel
    have hsz := hW.size
    have hol := len_slashed out
    by_cases hlt : k < L.length
    · have hck : wr.cell? ⟨lb, k, none⟩ = some (.string ⟨(L[k]).toArray⟩) := (hW.cell (p := ⟨lb, k, none⟩) hlB).trans (hlcell.out k hlt)
      rw [drop_consL hlt, cleanGo_step] at hr
      have hbd2 := stepOut_len out L[k] (L.drop (k + 1)).isEmpty
      have hol' : out.length ≤ 1000002 := by omega
      clear hol
      rw [drop_consL hlt, slashed_cons] at hbd
      have hbd3 : (Gl.slashed (stepOut out L[k] (L.drop (k + 1)).isEmpty)).length + (Gl.slashed (L.drop (k + 1))).length ≤ 1000001 := by
        simp at hbd; omega
      clear hbd hbd2
      have hbd := hbd3
      clear hbd3
      replace hbd := Lib.hid hbd
      obtain ⟨ob0, oc0, hoc0, hom0, _, hov, _, _⟩ := hown.at_
      rcases own_two hown with ⟨hnil, rfl⟩ | ⟨ob, oc, rfl⟩
      · replace hnil := Lib.hid hnil
        clear hov
        by_cases hdd : L[k] = [46, 46]
        · have hk1 := Lib.hid hdd
          have hb1 : (L[k] == ([46, 46] : List UInt8)) = true := by rw [hdd]; rfl
          clear hdd
          by_cases hlast : k + 1 = L.length
          · have hle : Hid ((L.drop (k + 1)).isEmpty = true) := Lib.hid (by rw [List.drop_eq_nil_of_le (by omega)]; rfl)
            have hbl : ((k : Int) == (L.length : Int) - 1) = true := by rw [beq_iff_eq]; omega
            clear hlast
            have hstep : Hid (stepOut out L[k] (L.drop (k + 1)).isEmpty = out.dropLast ++ [[]]) := Lib.hid (by rw [hle.out, stepOut]; simp [hk1.out])
            have hdl : Hid (out.dropLast = out) := Lib.hid (by rw [hnil.out]; rfl)
            rw [hdl.out] at hstep
            go_wp2_with (at_builtin; refine wpList_app rfl _ _ rfl w1.heap.size out _ rfl (hown.alloc _) [] _ rfl ?_ (by simp at *; omega) (by simp; omega) ?_)
            (try case refine_1 => go_simp)
            rintro v' w' hown' hw'
            have hW' := (hW.alloc hsz _).trans hw'
            go_wp2
            go_roundw
            case rel => exact ⟨k + 1, _, by omega, by go_num, hown', hW', Lib.hid (hr.out.trans (by rw [hstep.out])), by have := hbd.out; rw [hstep.out] at this; exact this⟩
            case measure => simp [intOf]; omega
          · have hle : Hid ((L.drop (k + 1)).isEmpty = false) := Lib.hid (by rw [drop_consL (show k + 1 < L.length by omega)]; rfl)
            have hbl : ((k : Int) == (L.length : Int) - 1) = false := by rw [beq_eq_false_iff_ne]; omega
            clear hlast
            have hstep : Hid (stepOut out L[k] (L.drop (k + 1)).isEmpty = out.dropLast) := Lib.hid (by rw [hle.out, stepOut]; simp [hk1.out])
            have hdl : Hid (out.dropLast = out) := Lib.hid (by rw [hnil.out]; rfl)
            rw [hdl.out] at hstep
            have hown' := Lib.hid hown
            have hW' := hW
            go_wp2
            go_roundw
            case rel => exact ⟨k + 1, _, by omega, by go_num, hown'.out, hW', Lib.hid (hr.out.trans (by rw [hstep.out])), by have := hbd.out; rw [hstep.out] at this; exact this⟩
            case measure => simp [intOf]; omega
        · have hb1 : (L[k] == ([46, 46] : List UInt8)) = false := by rw [beq_eq_false_iff_ne]; exact hdd
          by_cases hd : L[k] = [46]
          · have hk1 := Lib.hid hd
            have hb3 : (L[k] == ([46] : List UInt8)) = true := by rw [hd]; rfl
            clear hdd hd
            by_cases hlast : k + 1 = L.length
            · have hle : Hid ((L.drop (k + 1)).isEmpty = true) := Lib.hid (by rw [List.drop_eq_nil_of_le (by omega)]; rfl)
              have hbl : ((k : Int) == (L.length : Int) - 1) = true := by rw [beq_iff_eq]; omega
              clear hlast
              have hstep : Hid (stepOut out L[k] (L.drop (k + 1)).isEmpty = out ++ [[]]) := Lib.hid (by rw [hle.out, stepOut]; simp [hk1.out])
              go_wp2_with (at_builtin; refine wpList_app rfl _ _ rfl w1.heap.size out _ rfl (hown.alloc _) [] _ rfl ?_ (by simp at *; omega) (by simp; omega) ?_)
              (try case refine_1 => go_simp)
              rintro v' w' hown' hw'
              have hW' := (hW.alloc hsz _).trans hw'
              go_wp2
              go_roundw
              case rel => exact ⟨k + 1, _, by omega, by go_num, hown', hW', Lib.hid (hr.out.trans (by rw [hstep.out])), by have := hbd.out; rw [hstep.out] at this; exact this⟩
              case measure => simp [intOf]; omega
            · have hle : Hid ((L.drop (k + 1)).isEmpty = false) := Lib.hid (by rw [drop_consL (show k + 1 < L.length by omega)]; rfl)
              have hbl : ((k : Int) == (L.length : Int) - 1) = false := by rw [beq_eq_false_iff_ne]; omega
              clear hlast
              have hstep : Hid (stepOut out L[k] (L.drop (k + 1)).isEmpty = out) := Lib.hid (by rw [hle.out, stepOut]; simp [hk1.out])
              have hown' := Lib.hid hown
              have hW' := hW
              go_wp2
              go_roundw
              case rel => exact ⟨k + 1, _, by omega, by go_num, hown'.out, hW', Lib.hid (hr.out.trans (by rw [hstep.out])), by have := hbd.out; rw [hstep.out] at this; exact this⟩
              case measure => simp [intOf]; omega
          · have hk1 := Lib.hid (And.intro hdd hd)
            have hb3 : (L[k] == ([46] : List UInt8)) = false := by rw [beq_eq_false_iff_ne]; exact hd
            clear hdd hd
            have hstep : Hid (stepOut out L[k] (L.drop (k + 1)).isEmpty = out ++ [L[k]]) := Lib.hid (by rw [stepOut, if_neg hk1.out.1, if_neg hk1.out.2])
            go_wp2_with (at_builtin; refine wpList_app rfl _ _ rfl w1.heap.size out _ rfl (hown.alloc _) L[k] _ rfl ?_ (by simp at *; omega) (by simp; omega) ?_)
            (try case refine_1 => go_simp)
            rintro v' w' hown' hw'
            have hW' := (hW.alloc hsz _).trans hw'
            go_wp2
            go_roundw
            case rel => exact ⟨k + 1, _, by omega, by go_num, hown', hW', Lib.hid (hr.out.trans (by rw [hstep.out])), by have := hbd.out; rw [hstep.out] at this; exact this⟩
            case measure => simp [intOf]; omega
      · by_cases ho : 0 < out.length
        · have hov := hov ho
          injection hov with e1 e2 e3
          injection e1 with e1
          injection e1 with e1
          subst e1 e3
          clear e2
          by_cases hdd : L[k] = [46, 46]
          · have hk1 := Lib.hid hdd
            have hb1 : (L[k] == ([46, 46] : List UInt8)) = true := by rw [hdd]; rfl
            clear hdd
            by_cases hlast : k + 1 = L.length
            · have hle : Hid ((L.drop (k + 1)).isEmpty = true) := Lib.hid (by rw [List.drop_eq_nil_of_le (by omega)]; rfl)
              have hbl : ((k : Int) == (L.length : Int) - 1) = true := by rw [beq_iff_eq]; omega
              clear hlast
              have hstep : Hid (stepOut out L[k] (L.drop (k + 1)).isEmpty = out.dropLast ++ [[]]) := Lib.hid (by rw [hle.out, stepOut]; simp [hk1.out])
              have hmx : max (0 : Int) ((out.length : Int) - 1) = (out.length : Int) - 1 := by omega
              have hcut := own_cut hown (out.length - 1) (by omega)
              rw [← List.dropLast_eq_take] at hcut
              replace hcut := Lib.hid hcut
              go_wp2_with (at_builtin; refine wpList_app rfl _ _ rfl w1.heap.size out.dropLast _ rfl (hcut.out.alloc _) [] _ rfl ?_ (by simp at *; omega) (by simp; omega) ?_)
              (try case refine_1 => go_simp)
              rintro v' w' hown' hw'
              have hW' := (hW.alloc hsz _).trans hw'
              go_wp2
              go_roundw
              case rel => exact ⟨k + 1, _, by omega, by go_num, hown', hW', Lib.hid (hr.out.trans (by rw [hstep.out])), by have := hbd.out; rw [hstep.out] at this; exact this⟩
              case measure => simp [intOf]; omega
            · have hle : Hid ((L.drop (k + 1)).isEmpty = false) := Lib.hid (by rw [drop_consL (show k + 1 < L.length by omega)]; rfl)
              have hbl : ((k : Int) == (L.length : Int) - 1) = false := by rw [beq_eq_false_iff_ne]; omega
              clear hlast
              have hstep : Hid (stepOut out L[k] (L.drop (k + 1)).isEmpty = out.dropLast) := Lib.hid (by rw [hle.out, stepOut]; simp [hk1.out])
              have hmx : max (0 : Int) ((out.length : Int) - 1) = (out.length : Int) - 1 := by omega
              have hcut := own_cut hown (out.length - 1) (by omega)
              rw [← List.dropLast_eq_take] at hcut
              replace hcut := Lib.hid hcut
              have hown' := hcut.out
              have hW' := hW
              replace hown' := Lib.hid hown'
              go_wp2
              go_roundw
              case rel => exact ⟨k + 1, _, by omega, by go_num, hown'.out, hW', Lib.hid (hr.out.trans (by rw [hstep.out])), by have := hbd.out; rw [hstep.out] at this; exact this⟩
              case measure => simp [intOf]; omega
          · have hb1 : (L[k] == ([46, 46] : List UInt8)) = false := by rw [beq_eq_false_iff_ne]; exact hdd
            by_cases hd : L[k] = [46]
            · have hk1 := Lib.hid hd
              have hb3 : (L[k] == ([46] : List UInt8)) = true := by rw [hd]; rfl
              clear hdd hd
              by_cases hlast : k + 1 = L.length
              · have hle : Hid ((L.drop (k + 1)).isEmpty = true) := Lib.hid (by rw [List.drop_eq_nil_of_le (by omega)]; rfl)
                have hbl : ((k : Int) == (L.length : Int) - 1) = true := by rw [beq_iff_eq]; omega
                clear hlast
                have hstep : Hid (stepOut out L[k] (L.drop (k + 1)).isEmpty = out ++ [[]]) := Lib.hid (by rw [hle.out, stepOut]; simp [hk1.out])
                go_wp2_with (at_builtin; refine wpList_app rfl _ _ rfl w1.heap.size out _ rfl (hown.alloc _) [] _ rfl ?_ (by simp at *; omega) (by simp; omega) ?_)
                (try case refine_1 => go_simp)
                rintro v' w' hown' hw'
                have hW' := (hW.alloc hsz _).trans hw'
                go_wp2
                go_roundw
                case rel => exact ⟨k + 1, _, by omega, by go_num, hown', hW', Lib.hid (hr.out.trans (by rw [hstep.out])), by have := hbd.out; rw [hstep.out] at this; exact this⟩
                case measure => simp [intOf]; omega
              · have hle : Hid ((L.drop (k + 1)).isEmpty = false) := Lib.hid (by rw [drop_consL (show k + 1 < L.length by omega)]; rfl)
                have hbl : ((k : Int) == (L.length : Int) - 1) = false := by rw [beq_eq_false_iff_ne]; omega
                clear hlast
                have hstep : Hid (stepOut out L[k] (L.drop (k + 1)).isEmpty = out) := Lib.hid (by rw [hle.out, stepOut]; simp [hk1.out])
                have hown' := Lib.hid hown
                have hW' := hW
                go_wp2
                go_roundw
                case rel => exact ⟨k + 1, _, by omega, by go_num, hown'.out, hW', Lib.hid (hr.out.trans (by rw [hstep.out])), by have := hbd.out; rw [hstep.out] at this; exact this⟩
                case measure => simp [intOf]; omega
            · have hk1 := Lib.hid (And.intro hdd hd)
              have hb3 : (L[k] == ([46] : List UInt8)) = false := by rw [beq_eq_false_iff_ne]; exact hd
              clear hdd hd
              have hstep : Hid (stepOut out L[k] (L.drop (k + 1)).isEmpty = out ++ [L[k]]) := Lib.hid (by rw [stepOut, if_neg hk1.out.1, if_neg hk1.out.2])
              go_wp2_with (at_builtin; refine wpList_app rfl _ _ rfl w1.heap.size out _ rfl (hown.alloc _) L[k] _ rfl ?_ (by simp at *; omega) (by simp; omega) ?_)
              (try case refine_1 => go_simp)
              rintro v' w' hown' hw'
              have hW' := (hW.alloc hsz _).trans hw'
              go_wp2
              go_roundw
              case rel => exact ⟨k + 1, _, by omega, by go_num, hown', hW', Lib.hid (hr.out.trans (by rw [hstep.out])), by have := hbd.out; rw [hstep.out] at this; exact this⟩
              case measure => simp [intOf]; omega
        · have hnil : Hid (out = []) := Lib.hid (List.eq_nil_of_length_eq_zero (by omega))
          have ho0 : out.length = 0 := by omega
          rw [ho0] at hown ⊢
          clear hov
          replace ho0 := Lib.hid ho0
          by_cases hdd : L[k] = [46, 46]
          · have hk1 := Lib.hid hdd
            have hb1 : (L[k] == ([46, 46] : List UInt8)) = true := by rw [hdd]; rfl
            clear hdd
            by_cases hlast : k + 1 = L.length
            · have hle : Hid ((L.drop (k + 1)).isEmpty = true) := Lib.hid (by rw [List.drop_eq_nil_of_le (by omega)]; rfl)
              have hbl : ((k : Int) == (L.length : Int) - 1) = true := by rw [beq_iff_eq]; omega
              clear hlast
              have hstep : Hid (stepOut out L[k] (L.drop (k + 1)).isEmpty = out.dropLast ++ [[]]) := Lib.hid (by rw [hle.out, stepOut]; simp [hk1.out])
              have hdl : Hid (out.dropLast = out) := Lib.hid (by rw [hnil.out]; rfl)
              rw [hdl.out] at hstep
              go_wp2_with (at_builtin; refine wpList_app rfl _ _ rfl w1.heap.size out _ rfl (hown.alloc _) [] _ rfl ?_ (by simp at *; omega) (by simp; omega) ?_)
              (try case refine_1 => go_simp)
              rintro v' w' hown' hw'
              have hW' := (hW.alloc hsz _).trans hw'
              go_wp2
              go_roundw
              case rel => exact ⟨k + 1, _, by omega, by go_num, hown', hW', Lib.hid (hr.out.trans (by rw [hstep.out])), by have := hbd.out; rw [hstep.out] at this; exact this⟩
              case measure => simp [intOf]; omega
            · have hle : Hid ((L.drop (k + 1)).isEmpty = false) := Lib.hid (by rw [drop_consL (show k + 1 < L.length by omega)]; rfl)
              have hbl : ((k : Int) == (L.length : Int) - 1) = false := by rw [beq_eq_false_iff_ne]; omega
              clear hlast
              have hstep : Hid (stepOut out L[k] (L.drop (k + 1)).isEmpty = out.dropLast) := Lib.hid (by rw [hle.out, stepOut]; simp [hk1.out])
              have hdl : Hid (out.dropLast = out) := Lib.hid (by rw [hnil.out]; rfl)
              rw [hdl.out] at hstep
              have hown' := Lib.hid hown
              have hW' := hW
              go_wp2
              go_roundw
              case rel => exact ⟨k + 1, _, by omega, by go_num, hown'.out, hW', Lib.hid (hr.out.trans (by rw [hstep.out])), by have := hbd.out; rw [hstep.out] at this; exact this⟩
              case measure => simp [intOf]; omega
          · have hb1 : (L[k] == ([46, 46] : List UInt8)) = false := by rw [beq_eq_false_iff_ne]; exact hdd
            by_cases hd : L[k] = [46]
            · have hk1 := Lib.hid hd
              have hb3 : (L[k] == ([46] : List UInt8)) = true := by rw [hd]; rfl
              clear hdd hd
              by_cases hlast : k + 1 = L.length
              · have hle : Hid ((L.drop (k + 1)).isEmpty = true) := Lib.hid (by rw [List.drop_eq_nil_of_le (by omega)]; rfl)
                have hbl : ((k : Int) == (L.length : Int) - 1) = true := by rw [beq_iff_eq]; omega
                clear hlast
                have hstep : Hid (stepOut out L[k] (L.drop (k + 1)).isEmpty = out ++ [[]]) := Lib.hid (by rw [hle.out, stepOut]; simp [hk1.out])
                go_wp2_with (at_builtin; refine wpList_app rfl _ _ rfl w1.heap.size out _ rfl (hown.alloc _) [] _ rfl ?_ (by simp at *; omega) (by simp; omega) ?_)
                (try case refine_1 => go_simp)
                rintro v' w' hown' hw'
                have hW' := (hW.alloc hsz _).trans hw'
                go_wp2
                go_roundw
                case rel => exact ⟨k + 1, _, by omega, by go_num, hown', hW', Lib.hid (hr.out.trans (by rw [hstep.out])), by have := hbd.out; rw [hstep.out] at this; exact this⟩
                case measure => simp [intOf]; omega
              · have hle : Hid ((L.drop (k + 1)).isEmpty = false) := Lib.hid (by rw [drop_consL (show k + 1 < L.length by omega)]; rfl)
                have hbl : ((k : Int) == (L.length : Int) - 1) = false := by rw [beq_eq_false_iff_ne]; omega
                clear hlast
                have hstep : Hid (stepOut out L[k] (L.drop (k + 1)).isEmpty = out) := Lib.hid (by rw [hle.out, stepOut]; simp [hk1.out])
                have hown' := Lib.hid hown
                have hW' := hW
                go_wp2
                go_roundw
                case rel => exact ⟨k + 1, _, by omega, by go_num, hown'.out, hW', Lib.hid (hr.out.trans (by rw [hstep.out])), by have := hbd.out; rw [hstep.out] at this; exact this⟩
                case measure => simp [intOf]; omega
            · have hk1 := Lib.hid (And.intro hdd hd)
              have hb3 : (L[k] == ([46] : List UInt8)) = false := by rw [beq_eq_false_iff_ne]; exact hd
              clear hdd hd
              have hstep : Hid (stepOut out L[k] (L.drop (k + 1)).isEmpty = out ++ [L[k]]) := Lib.hid (by rw [stepOut, if_neg hk1.out.1, if_neg hk1.out.2])
              go_wp2_with (at_builtin; refine wpList_app rfl _ _ rfl w1.heap.size out _ rfl (hown.alloc _) L[k] _ rfl ?_ (by simp at *; omega) (by simp; omega) ?_)
              (try case refine_1 => go_simp)
              rintro v' w' hown' hw'
              have hW' := (hW.alloc hsz _).trans hw'
              go_wp2
              go_roundw
              case rel => exact ⟨k + 1, _, by omega, by go_num, hown', hW', Lib.hid (hr.out.trans (by rw [hstep.out])), by have := hbd.out; rw [hstep.out] at this; exact this⟩
              case measure => simp [intOf]; omega
    · replace hr : Hid (R = Gl.slashed out) := Lib.hid (hr.out.trans (by rw [List.drop_eq_nil_of_le (by omega)]; simp [Gl.cleanGo]))
      rw [List.drop_eq_nil_of_le (by omega)] at hbd
      replace hbd : (Gl.slashed out).length ≤ 1000001 := by simp [Gl.slashed] at hbd ⊢; omega
      have hne : out ≠ [] := fun e => hRne.out (by rw [hr.out, e]; rfl)
      have hj := slashed_join out hne
      have hjl : (Lib.join out [47]).length ≤ 1000000 := by rw [hj] at hbd; simp at hbd; omega
      replace hj := Lib.hid hj
      have hol' : out.length ≤ 1000001 := by omega
      have hB : Below w.heap.size w wr := hb.trans (hW.mono hb.size)
      replace hne := Lib.hid hne
      clear hlcell hol
      have hst2 := Lib.hid hown.strs
      obtain ⟨A, c, rfl⟩ := own_slice hown
      replace hown := Lib.hid hown
      go_wp2_with (go_at_call 86; refine (join_any out [47] _ _ hst2.out (by omega) (by omega)).mono ?_; rintro e w2 ⟨rfl, hb2⟩)
      have hB2 : Below w.heap.size w w2 := hB.trans (hb2.mono hB.size)
      show bodyPost _ _ _ Exit.ret _ _
      go_ret
      exact ⟨by rw [hr.out, hj.out]; rfl, hB2⟩
end Go.Proofs.YthmgcnaoionmoaaDoor
