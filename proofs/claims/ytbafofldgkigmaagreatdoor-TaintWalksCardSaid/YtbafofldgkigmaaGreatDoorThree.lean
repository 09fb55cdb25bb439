/- urlp.scheme: may a text (without great letters) be a scheme? urlp.ports: the known schemes. A path without points: the plain part. urlp.clean. What a URL of http or https is taken apart into: the plain part. urlp.web. A URL from a text, case by case: the plain part. urlp.ports: a map that the call makes, of five texts; and what is looked up in it. -/
import Derived.Test.YtbafofldgkigmaaGreatDoorTwo
import Derived.Test.YtbafofldgkigmaaGreatDoorOne
import Derived.WalkMore
import Derived.WideMake
namespace Go.Proofs.YtbafofldgkigmaaGreatDoor
open Go.RowKit

theorem indexByte_no (l : List UInt8) (c : UInt8) (w : World) (h : l.contains c = false) :
    Calls Tryz.prog 82 #[(Value.string ⟨(l).toArray⟩), .int .u8 c.toNat] w (Same w (.int .i64 (-1))) := by
  have := indexByte_any l c w
  rw [(indexByte_neg l c).2 h] at this
  exact this
theorem indexByte_yes (l : List UInt8) (c : UInt8) (w : World) (h : l.contains c = true) :
    Calls Tryz.prog 82 #[(Value.string ⟨(l).toArray⟩), .int .u8 c.toNat] w (fun e w' => ∃ n : Nat, e = .returned (.int .i64 (n : Int)) ∧ w = w') := by
  have hge := Lib.indexByte_ge l c
  have hne : Lib.indexByte l c ≠ -1 := fun e => by rw [(indexByte_neg l c).1 e] at h; cases h
  obtain ⟨n, hn⟩ := Int.eq_ofNat_of_zero_le (show 0 ≤ Lib.indexByte l c by omega)
  exact (indexByte_any l c w).mono fun e w' ⟨he, hw⟩ => ⟨n, by rw [he, hn], hw⟩

def noGreat (s : List UInt8) : Prop := ∀ c ∈ s, ¬ (65 ≤ c.toNat ∧ c.toNat ≤ 90)
theorem lower_noGreat (s : List UInt8) : noGreat (Gl.lower s) := by
  intro c hc
  simp only [Gl.lower, List.mem_map] at hc
  obtain ⟨d, _, rfl⟩ := hc
  unfold Gl.low
  have := d.toNat_lt
  split
  · rename_i h
    rw [UInt8.toNat_add]
    have : (32 : UInt8).toNat = 32 := rfl
    omega
  · rename_i h; exact h

set_option maxHeartbeats 2000000 in
theorem urlp_scheme (s : List UInt8) (w : World) (hs : s.length ≤ 281474976710656) (hg : noGreat s) :
    Calls Tryz.prog 53 #[(Value.string ⟨(s).toArray⟩)] w (Same w (.bool (Gl.scheme s))) := by
  generalize hR : Gl.scheme s = R
  replace hR := Lib.hid hR
  replace hg := Lib.hid hg
  go_enter Tryz.func53, Tryz.ntmps53
  go_wp2
  go_loop [3, 4, 5, 8] (fun _ _ _ i => ∃ k : Nat, k ≤ s.length ∧ i = .int .i64 k ∧ Hid (R = (!s.isEmpty && Gl.schemeGo (k == 0) (s.drop k)))) (fun _ _ _ i => s.length - (intOf i).toNat)
  case atStart => exact ⟨0, Nat.zero_le _, rfl, Lib.hid (by rw [← hR.out]; rfl)⟩
  case round =>
    obtain ⟨k, hk, rfl, hr⟩ := hrel
    by_cases hlt : k < s.length
    · have he : s.isEmpty = false := by cases s <;> simp_all
      have hgk := hg.out s[k] (List.getElem_mem hlt)
      rw [drop_cons hlt, he, schemeGo_cons] at hr
      have hk0 : ((k : Int) == 0) = (k == 0) := by rw [Bool.eq_iff_iff]; simp
      have hkp : Hid ((k + 1 == 0) = false) := Lib.hid (by simp)
      have hc256 := (s[k]).toNat_lt
      replace he := Lib.hid he
      cases hz : (k == 0) <;> rw [hz] at hk0 hr <;> replace hz := Lib.hid hz
      all_goals
        by_cases hl : 97 ≤ (s[k].toNat : Int) ∧ (s[k].toNat : Int) ≤ 122
        · obtain ⟨hl1, hl2⟩ := hl
          have hlt' : Gl.isLetter s[k] = true := by simp [Gl.isLetter]; omega
          rw [hlt'] at hr
          clear hlt' hgk
          go_wp2
          go_round
          case rel => exact ⟨k + 1, by omega, by go_num, Lib.hid (by rw [hr.out, hkp.out, he.out]; rfl)⟩
          case measure => simp [intOf]; omega
        · have hlf : Gl.isLetter s[k] = false := by simp [Gl.isLetter]; omega
          rw [hlf] at hr
          rcases (show (48 ≤ (s[k].toNat : Int) ∧ (s[k].toNat : Int) ≤ 57) ∨ (s[k].toNat : Int) < 48 ∨ (57 < (s[k].toNat : Int) ∧ (s[k].toNat : Int) < 97) ∨ 122 < (s[k].toNat : Int) from by omega) with hd | hd | hd | hd
          all_goals
            clear hl hlf hgk
            first
              | (obtain ⟨hd1, hd2⟩ := hd
                 have hdig : Hid (Gl.isDigit s[k] = true) := Lib.hid (by simp [Gl.isDigit]; omega))
              | (obtain ⟨hd1, hd2⟩ := hd
                 have hdig : Hid (Gl.isDigit s[k] = false) := Lib.hid (by simp [Gl.isDigit]; omega))
              | (have hdig : Hid (Gl.isDigit s[k] = false) := Lib.hid (by simp [Gl.isDigit]; omega))
            cases ho : ([43, 45, 46] : List UInt8).contains s[k]
            all_goals
              rw [ho] at hr
              replace ho := Lib.hid ho
              go_wp2_with (first
                | (go_at_call 82; refine (indexByte_no [43, 45, 46] s[k] _ ho.out).mono ?_; rintro e w' ⟨rfl, rfl⟩)
                | (go_at_call 82; refine (indexByte_yes [43, 45, 46] s[k] _ ho.out).mono ?_; rintro e w' ⟨n, rfl, rfl⟩))
              all_goals first
                | (exfalso; clear hr hR hg hkp hz ho hdig he; simp at *; omega)
                | (go_round
                   case rel => exact ⟨k + 1, by omega, by go_num, Lib.hid (by rw [hr.out, hdig.out, hkp.out, he.out]; rfl)⟩
                   case measure => simp [intOf]; omega)
                | (go_ret
                   exact ret_bool (by rw [hr.out, hdig.out]; simp))
    · by_cases he : s.isEmpty = true
      · obtain rfl : s = [] := by simpa using he
        go_wp2
        go_ret
        exact ret_bool (by rw [hr.out]; simp)
      · replace he : s.isEmpty = false := by simpa using he
        rw [List.drop_eq_nil_of_le (by omega), he] at hr
        go_wp2
        go_ret
        exact ret_bool (by rw [hr.out]; simp [Gl.schemeGo])

end Go.Proofs.YtbafofldgkigmaaGreatDoor
namespace Go.Proofs.YtbafofldgkigmaaGreatDoor

/-- What one part does to those that are kept; 'last': is it the last one? -/
def stepOut (out : List (List UInt8)) (p : List UInt8) (last : Bool) : List (List UInt8) :=
  if p = [46, 46] then (if last then out.dropLast ++ [[]] else out.dropLast)
  else if p = [46] then (if last then out ++ [[]] else out)
  else out ++ [p]
theorem cleanGo_step (out : List (List UInt8)) (p : List UInt8) (r : List (List UInt8)) : Gl.cleanGo out (p :: r) = Gl.cleanGo (stepOut out p r.isEmpty) r := by
  unfold stepOut
  conv => lhs; unfold Gl.cleanGo
  cases r with
  | nil => simp [Gl.cleanGo]
  | cons q r => simp; split <;> (try split) <;> rfl
theorem slashed_append (a b : List (List UInt8)) : Gl.slashed (a ++ b) = Gl.slashed a ++ Gl.slashed b := by simp [Gl.slashed]
theorem slashed_cons (a : List UInt8) (b : List (List UInt8)) : Gl.slashed (a :: b) = 47 :: a ++ Gl.slashed b := by simp [Gl.slashed]
theorem slashed_dropLast (a : List (List UInt8)) : (Gl.slashed a.dropLast).length ≤ (Gl.slashed a).length := by
  rcases List.eq_nil_or_concat a with rfl | ⟨b, x, rfl⟩
  · simp
  · rw [List.concat_eq_append, List.dropLast_concat, slashed_append]; simp
theorem stepOut_len (out : List (List UInt8)) (p : List UInt8) (last : Bool) : (Gl.slashed (stepOut out p last)).length ≤ (Gl.slashed out).length + p.length + 1 := by
  have := slashed_dropLast out
  unfold stepOut
  split
  · split
    · rw [slashed_append, slashed_cons]; simp [Gl.slashed] at *; omega
    · omega
  · split
    · split
      · rw [slashed_append, slashed_cons]; simp [Gl.slashed] <;> omega
      · omega
    · rw [slashed_append, slashed_cons]; simp [Gl.slashed] <;> omega
theorem cleanGo_len (L : List (List UInt8)) : ∀ out, (Gl.slashed (Gl.cleanGo out L)).length ≤ (Gl.slashed out).length + (Gl.slashed L).length := by
  induction L with
  | nil => intro out; simp [Gl.cleanGo]
  | cons p r ih =>
    intro out
    rw [cleanGo_step]
    have h1 := ih (stepOut out p r.isEmpty)
    have h2 := stepOut_len out p r.isEmpty
    rw [slashed_cons]
    simp
    omega
theorem slashed_split (c : UInt8) (l : List UInt8) : (Gl.slashed (Gl.split c l)).length = l.length + 1 := by
  have : ∀ (l p : List UInt8), (Gl.slashed (Gl.splitGo c p l)).length = p.length + l.length + 1 := by
    intro l
    induction l with
    | nil => intro p; simp [Gl.splitGo, Gl.slashed]
    | cons x r ih =>
      intro p
      unfold Gl.splitGo
      split
      · rw [slashed_cons]; simp [ih] <;> omega
      · rw [ih]; simp <;> omega
  have := this l []
  simp only [List.length_nil, Nat.zero_add] at this
  exact this
theorem clean_len (path : List UInt8) : (Gl.clean path).length ≤ path.length + 1 := by
  unfold Gl.clean
  have h := cleanGo_len (Gl.split 47 (path.drop 1)) []
  rw [slashed_split] at h
  simp [Gl.slashed] at h ⊢
  omega
theorem slashed_take (L : List (List UInt8)) (k : Nat) : (Gl.slashed (L.take k)).length ≤ (Gl.slashed L).length := by
  conv => rhs; rw [← List.take_append_drop k L]
  rw [slashed_append]
  simp
theorem len_slashed (L : List (List UInt8)) : L.length ≤ (Gl.slashed L).length := by
  induction L with
  | nil => simp
  | cons a b ih => rw [slashed_cons]; simp; omega
end Go.Proofs.YtbafofldgkigmaaGreatDoor
namespace Go.Proofs.YtbafofldgkigmaaGreatDoor
open Go.RowKit

theorem own_two {w : World} {B : Nat} {v : Value} {L : List (List UInt8)} (h : Own w B v L) : (L = [] ∧ v = .slice none 0 0) ∨ ∃ g c, v = .slice (some ⟨g, 0, none⟩) L.length c := by
  obtain ⟨hl, h⟩ := h
  rcases h with ⟨rfl, h0⟩ | ⟨g', cap, cur, rfl, _⟩
  · exact Or.inl ⟨List.eq_nil_of_length_eq_zero h0, rfl⟩
  · exact Or.inr ⟨_, _, rfl⟩
theorem stepOut_last (out : List (List UInt8)) (p : List UInt8) : stepOut out p true ≠ [] := by
  unfold stepOut
  split <;> (try split) <;> simp_all
theorem cleanGo_ne (L : List (List UInt8)) : ∀ out, L ≠ [] → Gl.cleanGo out L ≠ [] := by
  induction L with
  | nil => intro out h; exact absurd rfl h
  | cons p r ih =>
    intro out _
    rw [cleanGo_step]
    cases r with
    | nil => simp only [Gl.cleanGo]; exact stepOut_last _ _
    | cons q r => exact ih _ (by simp)
theorem slashed_join (L : List (List UInt8)) (h : L ≠ []) : Gl.slashed L = 47 :: Lib.join L [47] := by
  cases L with
  | nil => exact absurd rfl h
  | cons a r =>
    rw [Lib.join_cons, slashed_cons]
    simp [Gl.slashed, Lib.joinTail, List.flatMap]
theorem drop47 (path : List UInt8) (hp : path = [] ∨ path.head? = some 47) : (if ([47] : List UInt8).isPrefixOf path then path.drop ([47] : List UInt8).length else path) = path.drop 1 := by
  rcases hp with rfl | hp
  · rfl
  · cases path with
    | nil => rfl
    | cons a r =>
      obtain rfl : a = 47 := by simpa using hp
      rfl

set_option maxHeartbeats 4000000 in
set_option maxRecDepth 100000 in
theorem urlp_clean (path : List UInt8) (w : World) (hE : Env w) (hs : path.length ≤ 1000000) (hp : path = [] ∨ path.head? = some 47) :
    Calls Tryz.prog 86 #[(Value.string ⟨(path).toArray⟩)] w (Ret w ((Value.string ⟨(Gl.clean path).toArray⟩))) := by
  have hpl : (path.drop 1).length ≤ 1000000 := by rw [List.length_drop]; omega
  have hlen := split_len 47 (path.drop 1)
  have hpos := split_pos 47 (path.drop 1)
  have hsl := slashed_split 47 (path.drop 1)
  have hRne : Gl.clean path ≠ [] := by
    unfold Gl.clean
    have := cleanGo_ne (Gl.split 47 (path.drop 1)) [] (fun e => by rw [e] at hpos; simp at hpos)
    revert this
    cases Gl.cleanGo [] (Gl.split 47 (path.drop 1)) with
    | nil => intro h; exact absurd rfl h
    | cons a r => intro _; rw [slashed_cons]; simp
  have hR : Gl.clean path = Gl.slashed (Gl.cleanGo [] (Gl.split 47 (path.drop 1))) := rfl
  generalize Gl.clean path = R at *
  replace hR := Lib.hid hR
  replace hRne := Lib.hid hRne
  generalize hL : Gl.split 47 (path.drop 1) = L at *
  replace hL := Lib.hid hL
  generalize hp1 : path.drop 1 = p1 at *
  have h47 : Hid ((if ([47] : List UInt8).isPrefixOf path then path.drop ([47] : List UInt8).length else path) = p1) := Lib.hid (by rw [drop47 path hp]; exact hp1)
  replace hp1 := Lib.hid hp1
  go_enter Tryz.func86, Tryz.ntmps86
  go_wp2_with (first | (go_at_call 115; refine (trimPrefix_any path [47] _).mono ?_; rintro e w1 ⟨rfl, rfl⟩; rw [h47.out]) | (go_at_call 114; refine ( hL.out ▸ splitS_any p1 47 _ hE (by omega)).mono ?_; rintro e w1 ⟨v, rfl, hst, hb⟩; obtain ⟨hc, hfz⟩ := bcell hb; have hz := hb.size; (try simp at hz); (try have hz0 := lt_ hb w.heap.size); (try have hz1 := lt_ hb (w.heap.size + 1)); (try have hz2 := lt_ hb (w.heap.size + 2)); (try have hz3 := lt_ hb (w.heap.size + 3)); obtain ⟨lb, lc, hlc, hlm, hlB, hlv, _, hlcell⟩ := hst.at_; obtain rfl := hlv ( hpos); obtain ⟨hlb, hlB⟩ := hlB ( hpos)))
  all_goals (try go_step3)
  all_goals go_wp2_with (first | (go_at_call 115; refine (trimPrefix_any path [47] _).mono ?_; rintro e w1 ⟨rfl, rfl⟩; rw [h47.out]) | (go_at_call 114; refine ( hL.out ▸ splitS_any p1 47 _ hE (by omega)).mono ?_; rintro e w1 ⟨v, rfl, hst, hb⟩; obtain ⟨hc, hfz⟩ := bcell hb; have hz := hb.size; (try simp at hz); (try have hz0 := lt_ hb w.heap.size); (try have hz1 := lt_ hb (w.heap.size + 1)); (try have hz2 := lt_ hb (w.heap.size + 2)); (try have hz3 := lt_ hb (w.heap.size + 3)); obtain ⟨lb, lc, hlc, hlm, hlB, hlv, _, hlcell⟩ := hst.at_; obtain rfl := hlv ( hpos); obtain ⟨hlb, hlB⟩ := hlB ( hpos)))
  replace hlcell := Lib.hid hlcell
  go_step3
  go_wp2
  go_loopw [3, 12] (fun v i wr => ∃ (k : Nat) (out : List (List UInt8)), k ≤ L.length ∧ i = .int .i64 k ∧ Own wr w1.heap.size v out ∧ Below w1.heap.size w1 wr ∧
      Hid (R = Gl.slashed (Gl.cleanGo out (L.drop k))) ∧ (Gl.slashed out).length + (Gl.slashed (L.drop k)).length ≤ 1000001) (fun _ i _ => L.length - (intOf i).toNat)
  case atStart => exact ⟨0, [], by omega, rfl, Own.nil _ _, Below.refl _ _, hR, by simp [Gl.slashed] at hsl ⊢; omega⟩
  case round =>
    obtain ⟨k, out, hk, rfl, hown, hW, hr, hbd⟩ := hrel
    have hsz := hW.size
    have hol := len_slashed out
    by_cases hlt : k < L.length
    · have hck : wr.cell? ⟨lb, k, none⟩ = some (.string ⟨(L[k]).toArray⟩) := (hW.cell (p := ⟨lb, k, none⟩) hlB).trans (hlcell.out k hlt)
      rw [drop_consL hlt, cleanGo_step] at hr
      have hbd2 := stepOut_len out L[k] (L.drop (k + 1)).isEmpty
      have hol' : out.length ≤ 1000002 := by omega
      clear hol
      rw [drop_consL hlt, slashed_cons] at hbd
      have hbd3 : (Gl.slashed (stepOut out L[k] (L.drop (k + 1)).isEmpty)).length + (Gl.slashed (L.drop (k + 1))).length ≤ 1000001 := by
        simp at hbd; omega
      clear hbd hbd2
      have hbd := hbd3
      clear hbd3
      replace hbd := Lib.hid hbd
      obtain ⟨ob0, oc0, hoc0, hom0, _, hov, _, _⟩ := hown.at_
      rcases own_two hown with ⟨hnil, rfl⟩ | ⟨ob, oc, rfl⟩
      · replace hnil := Lib.hid hnil
        clear hov
        by_cases hdd : L[k] = [46, 46]
        · have hk1 := Lib.hid hdd
          have hb1 : (L[k] == ([46, 46] : List UInt8)) = true := by rw [hdd]; rfl
          clear hdd
          by_cases hlast : k + 1 = L.length
          · have hle : Hid ((L.drop (k + 1)).isEmpty = true) := Lib.hid (by rw [List.drop_eq_nil_of_le (by omega)]; rfl)
            have hbl : ((k : Int) == (L.length : Int) - 1) = true := by rw [beq_iff_eq]; omega
            clear hlast
            have hstep : Hid (stepOut out L[k] (L.drop (k + 1)).isEmpty = out.dropLast ++ [[]]) := Lib.hid (by rw [hle.out, stepOut]; simp [hk1.out])
            have hdl : Hid (out.dropLast = out) := Lib.hid (by rw [hnil.out]; rfl)
            rw [hdl.out] at hstep
            go_wp2_with (at_builtin; refine wpList_app rfl _ _ rfl w1.heap.size out _ rfl (hown.alloc _) [] _ rfl ?_ (by simp at *; omega) (by simp; omega) ?_)
            (try case refine_1 => go_simp)
            rintro v' w' hown' hw'
            have hW' := (hW.alloc hsz _).trans hw'
            go_wp2
            go_roundw
            case rel => exact ⟨k + 1, _, by omega, by go_num, hown', hW', Lib.hid (hr.out.trans (by rw [hstep.out])), by have := hbd.out; rw [hstep.out] at this; exact this⟩
            case measure => simp [intOf]; omega
          · have hle : Hid ((L.drop (k + 1)).isEmpty = false) := Lib.hid (by rw [drop_consL (show k + 1 < L.length by omega)]; rfl)
            have hbl : ((k : Int) == (L.length : Int) - 1) = false := by rw [beq_eq_false_iff_ne]; omega
            clear hlast
            have hstep : Hid (stepOut out L[k] (L.drop (k + 1)).isEmpty = out.dropLast) := Lib.hid (by rw [hle.out, stepOut]; simp [hk1.out])
            have hdl : Hid (out.dropLast = out) := Lib.hid (by rw [hnil.out]; rfl)
            rw [hdl.out] at hstep
            have hown' := Lib.hid hown
            have hW' := hW
            go_wp2
            go_roundw
            case rel => exact ⟨k + 1, _, by omega, by go_num, hown'.out, hW', Lib.hid (hr.out.trans (by rw [hstep.out])), by have := hbd.out; rw [hstep.out] at this; exact this⟩
            case measure => simp [intOf]; omega
        · have hb1 : (L[k] == ([46, 46] : List UInt8)) = false := by rw [beq_eq_false_iff_ne]; exact hdd
          by_cases hd : L[k] = [46]
          · have hk1 := Lib.hid hd
            have hb3 : (L[k] == ([46] : List UInt8)) = true := by rw [hd]; rfl
            clear hdd hd
            by_cases hlast : k + 1 = L.length
            · have hle : Hid ((L.drop (k + 1)).isEmpty = true) := Lib.hid (by rw [List.drop_eq_nil_of_le (by omega)]; rfl)
              have hbl : ((k : Int) == (L.length : Int) - 1) = true := by rw [beq_iff_eq]; omega
              clear hlast
              have hstep : Hid (stepOut out L[k] (L.drop (k + 1)).isEmpty = out ++ [[]]) := Lib.hid (by rw [hle.out, stepOut]; simp [hk1.out])
              go_wp2_with (at_builtin; refine wpList_app rfl _ _ rfl w1.heap.size out _ rfl (hown.alloc _) [] _ rfl ?_ (by simp at *; omega) (by simp; omega) ?_)
              (try case refine_1 => go_simp)
              rintro v' w' hown' hw'
              have hW' := (hW.alloc hsz _).trans hw'
              go_wp2
              go_roundw
              case rel => exact ⟨k + 1, _, by omega, by go_num, hown', hW', Lib.hid (hr.out.trans (by rw [hstep.out])), by have := hbd.out; rw [hstep.out] at this; exact this⟩
              case measure => simp [intOf]; omega
            · have hle : Hid ((L.drop (k + 1)).isEmpty = false) := Lib.hid (by rw [drop_consL (show k + 1 < L.length by omega)]; rfl)
              have hbl : ((k : Int) == (L.length : Int) - 1) = false := by rw [beq_eq_false_iff_ne]; omega
              clear hlast
              have hstep : Hid (stepOut out L[k] (L.drop (k + 1)).isEmpty = out) := Lib.hid (by rw [hle.out, stepOut]; simp [hk1.out])
              have hown' := Lib.hid hown
              have hW' := hW
              go_wp2
              go_roundw
              case rel => exact ⟨k + 1, _, by omega, by go_num, hown'.out, hW', Lib.hid (hr.out.trans (by rw [hstep.out])), by have := hbd.out; rw [hstep.out] at this; exact this⟩
              case measure => simp [intOf]; omega
          · have hk1 := Lib.hid (And.intro hdd hd)
            have hb3 : (L[k] == ([46] : List UInt8)) = false := by rw [beq_eq_false_iff_ne]; exact hd
            clear hdd hd
            have hstep : Hid (stepOut out L[k] (L.drop (k + 1)).isEmpty = out ++ [L[k]]) := Lib.hid (by rw [stepOut, if_neg hk1.out.1, if_neg hk1.out.2])
            go_wp2_with (at_builtin; refine wpList_app rfl _ _ rfl w1.heap.size out _ rfl (hown.alloc _) L[k] _ rfl ?_ (by simp at *; omega) (by simp; omega) ?_)
            (try case refine_1 => go_simp)
            rintro v' w' hown' hw'
            have hW' := (hW.alloc hsz _).trans hw'
            go_wp2
            go_roundw
            case rel => exact ⟨k + 1, _, by omega, by go_num, hown', hW', Lib.hid (hr.out.trans (by rw [hstep.out])), by have := hbd.out; rw [hstep.out] at this; exact this⟩
            case measure => simp [intOf]; omega
      · by_cases ho : 0 < out.length
        · have hov := hov ho
          injection hov with e1 e2 e3
          injection e1 with e1
          injection e1 with e1
          subst e1 e3
          clear e2
          by_cases hdd : L[k] = [46, 46]
          · have hk1 := Lib.hid hdd
            have hb1 : (L[k] == ([46, 46] : List UInt8)) = true := by rw [hdd]; rfl
            clear hdd
            by_cases hlast : k + 1 = L.length
            · have hle : Hid ((L.drop (k + 1)).isEmpty = true) := Lib.hid (by rw [List.drop_eq_nil_of_le (by omega)]; rfl)
              have hbl : ((k : Int) == (L.length : Int) - 1) = true := by rw [beq_iff_eq]; omega
              clear hlast
              have hstep : Hid (stepOut out L[k] (L.drop (k + 1)).isEmpty = out.dropLast ++ [[]]) := Lib.hid (by rw [hle.out, stepOut]; simp [hk1.out])
              have hmx : max (0 : Int) ((out.length : Int) - 1) = (out.length : Int) - 1 := by omega
              have hcut := own_cut hown (out.length - 1) (by omega)
              rw [← List.dropLast_eq_take] at hcut
              replace hcut := Lib.hid hcut
              go_wp2_with (at_builtin; refine wpList_app rfl _ _ rfl w1.heap.size out.dropLast _ rfl (hcut.out.alloc _) [] _ rfl ?_ (by simp at *; omega) (by simp; omega) ?_)
              (try case refine_1 => go_simp)
              rintro v' w' hown' hw'
              have hW' := (hW.alloc hsz _).trans hw'
              go_wp2
              go_roundw
              case rel => exact ⟨k + 1, _, by omega, by go_num, hown', hW', Lib.hid (hr.out.trans (by rw [hstep.out])), by have := hbd.out; rw [hstep.out] at this; exact this⟩
              case measure => simp [intOf]; omega
            · have hle : Hid ((L.drop (k + 1)).isEmpty = false) := Lib.hid (by rw [drop_consL (show k + 1 < L.length by omega)]; rfl)
              have hbl : ((k : Int) == (L.length : Int) - 1) = false := by rw [beq_eq_false_iff_ne]; omega
              clear hlast
              have hstep : Hid (stepOut out L[k] (L.drop (k + 1)).isEmpty = out.dropLast) := Lib.hid (by rw [hle.out, stepOut]; simp [hk1.out])
              have hmx : max (0 : Int) ((out.length : Int) - 1) = (out.length : Int) - 1 := by omega
              have hcut := own_cut hown (out.length - 1) (by omega)
              rw [← List.dropLast_eq_take] at hcut
              replace hcut := Lib.hid hcut
              have hown' := hcut.out
              have hW' := hW
              replace hown' := Lib.hid hown'
              go_wp2
              go_roundw
              case rel => exact ⟨k + 1, _, by omega, by go_num, hown'.out, hW', Lib.hid (hr.out.trans (by rw [hstep.out])), by have := hbd.out; rw [hstep.out] at this; exact this⟩
              case measure => simp [intOf]; omega
          · have hb1 : (L[k] == ([46, 46] : List UInt8)) = false := by rw [beq_eq_false_iff_ne]; exact hdd
            by_cases hd : L[k] = [46]
            · have hk1 := Lib.hid hd
              have hb3 : (L[k] == ([46] : List UInt8)) = true := by rw [hd]; rfl
              clear hdd hd
              by_cases hlast : k + 1 = L.length
              · have hle : Hid ((L.drop (k + 1)).isEmpty = true) := Lib.hid (by rw [List.drop_eq_nil_of_le (by omega)]; rfl)
                have hbl : ((k : Int) == (L.length : Int) - 1) = true := by rw [beq_iff_eq]; omega
                clear hlast
                have hstep : Hid (stepOut out L[k] (L.drop (k + 1)).isEmpty = out ++ [[]]) := Lib.hid (by rw [hle.out, stepOut]; simp [hk1.out])
                go_wp2_with (at_builtin; refine wpList_app rfl _ _ rfl w1.heap.size out _ rfl (hown.alloc _) [] _ rfl ?_ (by simp at *; omega) (by simp; omega) ?_)
                (try case refine_1 => go_simp)
                rintro v' w' hown' hw'
                have hW' := (hW.alloc hsz _).trans hw'
                go_wp2
                go_roundw
                case rel => exact ⟨k + 1, _, by omega, by go_num, hown', hW', Lib.hid (hr.out.trans (by rw [hstep.out])), by have := hbd.out; rw [hstep.out] at this; exact this⟩
                case measure => simp [intOf]; omega
              · have hle : Hid ((L.drop (k + 1)).isEmpty = false) := Lib.hid (by rw [drop_consL (show k + 1 < L.length by omega)]; rfl)
                have hbl : ((k : Int) == (L.length : Int) - 1) = false := by rw [beq_eq_false_iff_ne]; omega
                clear hlast
                have hstep : Hid (stepOut out L[k] (L.drop (k + 1)).isEmpty = out) := Lib.hid (by rw [hle.out, stepOut]; simp [hk1.out])
                have hown' := Lib.hid hown
                have hW' := hW
                go_wp2
                go_roundw
                case rel => exact ⟨k + 1, _, by omega, by go_num, hown'.out, hW', Lib.hid (hr.out.trans (by rw [hstep.out])), by have := hbd.out; rw [hstep.out] at this; exact this⟩
                case measure => simp [intOf]; omega
            · have hk1 := Lib.hid (And.intro hdd hd)
              have hb3 : (L[k] == ([46] : List UInt8)) = false := by rw [beq_eq_false_iff_ne]; exact hd
              clear hdd hd
              have hstep : Hid (stepOut out L[k] (L.drop (k + 1)).isEmpty = out ++ [L[k]]) := Lib.hid (by rw [stepOut, if_neg hk1.out.1, if_neg hk1.out.2])
              go_wp2_with (at_builtin; refine wpList_app rfl _ _ rfl w1.heap.size out _ rfl (hown.alloc _) L[k] _ rfl ?_ (by simp at *; omega) (by simp; omega) ?_)
              (try case refine_1 => go_simp)
              rintro v' w' hown' hw'
              have hW' := (hW.alloc hsz _).trans hw'
              go_wp2
              go_roundw
              case rel => exact ⟨k + 1, _, by omega, by go_num, hown', hW', Lib.hid (hr.out.trans (by rw [hstep.out])), by have := hbd.out; rw [hstep.out] at this; exact this⟩
              case measure => simp [intOf]; omega
        · have hnil : Hid (out = []) := Lib.hid (List.eq_nil_of_length_eq_zero (by omega))
          have ho0 : out.length = 0 := by omega
          rw [ho0] at hown ⊢
          clear hov
          replace ho0 := Lib.hid ho0
          by_cases hdd : L[k] = [46, 46]
          · have hk1 := Lib.hid hdd
            have hb1 : (L[k] == ([46, 46] : List UInt8)) = true := by rw [hdd]; rfl
            clear hdd
            by_cases hlast : k + 1 = L.length
            · have hle : Hid ((L.drop (k + 1)).isEmpty = true) := Lib.hid (by rw [List.drop_eq_nil_of_le (by omega)]; rfl)
              have hbl : ((k : Int) == (L.length : Int) - 1) = true := by rw [beq_iff_eq]; omega
              clear hlast
              have hstep : Hid (stepOut out L[k] (L.drop (k + 1)).isEmpty = out.dropLast ++ [[]]) := Lib.hid (by rw [hle.out, stepOut]; simp [hk1.out])
              have hdl : Hid (out.dropLast = out) := Lib.hid (by rw [hnil.out]; rfl)
              rw [hdl.out] at hstep
              go_wp2_with (at_builtin; refine wpList_app rfl _ _ rfl w1.heap.size out _ rfl (hown.alloc _) [] _ rfl ?_ (by simp at *; omega) (by simp; omega) ?_)
              (try case refine_1 => go_simp)
              rintro v' w' hown' hw'
              have hW' := (hW.alloc hsz _).trans hw'
              go_wp2
              go_roundw
              case rel => exact ⟨k + 1, _, by omega, by go_num, hown', hW', Lib.hid (hr.out.trans (by rw [hstep.out])), by have := hbd.out; rw [hstep.out] at this; exact this⟩
              case measure => simp [intOf]; omega
            · have hle : Hid ((L.drop (k + 1)).isEmpty = false) := Lib.hid (by rw [drop_consL (show k + 1 < L.length by omega)]; rfl)
              have hbl : ((k : Int) == (L.length : Int) - 1) = false := by rw [beq_eq_false_iff_ne]; omega
              clear hlast
              have hstep : Hid (stepOut out L[k] (L.drop (k + 1)).isEmpty = out.dropLast) := Lib.hid (by rw [hle.out, stepOut]; simp [hk1.out])
              have hdl : Hid (out.dropLast = out) := Lib.hid (by rw [hnil.out]; rfl)
              rw [hdl.out] at hstep
              have hown' := Lib.hid hown
              have hW' := hW
              go_wp2
              go_roundw
              case rel => exact ⟨k + 1, _, by omega, by go_num, hown'.out, hW', Lib.hid (hr.out.trans (by rw [hstep.out])), by have := hbd.out; rw [hstep.out] at this; exact this⟩
              case measure => simp [intOf]; omega
          · have hb1 : (L[k] == ([46, 46] : List UInt8)) = false := by rw [beq_eq_false_iff_ne]; exact hdd
            by_cases hd : L[k] = [46]
            · have hk1 := Lib.hid hd
              have hb3 : (L[k] == ([46] : List UInt8)) = true := by rw [hd]; rfl
              clear hdd hd
              by_cases hlast : k + 1 = L.length
              · have hle : Hid ((L.drop (k + 1)).isEmpty = true) := Lib.hid (by rw [List.drop_eq_nil_of_le (by omega)]; rfl)
                have hbl : ((k : Int) == (L.length : Int) - 1) = true := by rw [beq_iff_eq]; omega
                clear hlast
                have hstep : Hid (stepOut out L[k] (L.drop (k + 1)).isEmpty = out ++ [[]]) := Lib.hid (by rw [hle.out, stepOut]; simp [hk1.out])
                go_wp2_with (at_builtin; refine wpList_app rfl _ _ rfl w1.heap.size out _ rfl (hown.alloc _) [] _ rfl ?_ (by simp at *; omega) (by simp; omega) ?_)
                (try case refine_1 => go_simp)
                rintro v' w' hown' hw'
                have hW' := (hW.alloc hsz _).trans hw'
                go_wp2
                go_roundw
                case rel => exact ⟨k + 1, _, by omega, by go_num, hown', hW', Lib.hid (hr.out.trans (by rw [hstep.out])), by have := hbd.out; rw [hstep.out] at this; exact this⟩
                case measure => simp [intOf]; omega
              · have hle : Hid ((L.drop (k + 1)).isEmpty = false) := Lib.hid (by rw [drop_consL (show k + 1 < L.length by omega)]; rfl)
                have hbl : ((k : Int) == (L.length : Int) - 1) = false := by rw [beq_eq_false_iff_ne]; omega
                clear hlast
                have hstep : Hid (stepOut out L[k] (L.drop (k + 1)).isEmpty = out) := Lib.hid (by rw [hle.out, stepOut]; simp [hk1.out])
                have hown' := Lib.hid hown
                have hW' := hW
                go_wp2
                go_roundw
                case rel => exact ⟨k + 1, _, by omega, by go_num, hown'.out, hW', Lib.hid (hr.out.trans (by rw [hstep.out])), by have := hbd.out; rw [hstep.out] at this; exact this⟩
                case measure => simp [intOf]; omega
            · have hk1 := Lib.hid (And.intro hdd hd)
              have hb3 : (L[k] == ([46] : List UInt8)) = false := by rw [beq_eq_false_iff_ne]; exact hd
              clear hdd hd
              have hstep : Hid (stepOut out L[k] (L.drop (k + 1)).isEmpty = out ++ [L[k]]) := Lib.hid (by rw [stepOut, if_neg hk1.out.1, if_neg hk1.out.2])
              go_wp2_with (at_builtin; refine wpList_app rfl _ _ rfl w1.heap.size out _ rfl (hown.alloc _) L[k] _ rfl ?_ (by simp at *; omega) (by simp; omega) ?_)
              (try case refine_1 => go_simp)
              rintro v' w' hown' hw'
              have hW' := (hW.alloc hsz _).trans hw'
              go_wp2
              go_roundw
              case rel => exact ⟨k + 1, _, by omega, by go_num, hown', hW', Lib.hid (hr.out.trans (by rw [hstep.out])), by have := hbd.out; rw [hstep.out] at this; exact this⟩
              case measure => simp [intOf]; omega
    · replace hr : Hid (R = Gl.slashed out) := Lib.hid (hr.out.trans (by rw [List.drop_eq_nil_of_le (by omega)]; simp [Gl.cleanGo]))
      rw [List.drop_eq_nil_of_le (by omega)] at hbd
      replace hbd : (Gl.slashed out).length ≤ 1000001 := by simp [Gl.slashed] at hbd ⊢; omega
      have hne : out ≠ [] := fun e => hRne.out (by rw [hr.out, e]; rfl)
      have hj := slashed_join out hne
      have hjl : (Lib.join out [47]).length ≤ 1000000 := by rw [hj] at hbd; simp at hbd; omega
      replace hj := Lib.hid hj
      have hol' : out.length ≤ 1000001 := by omega
      have hB : Below w.heap.size w wr := hb.trans (hW.mono hb.size)
      replace hne := Lib.hid hne
      clear hlcell hol
      have hst2 := Lib.hid hown.strs
      obtain ⟨A, c, rfl⟩ := own_slice hown
      replace hown := Lib.hid hown
      go_wp2_with (go_at_call 90; refine (join_any out [47] _ _ hst2.out (by omega) (by omega)).mono ?_; rintro e w2 ⟨rfl, hb2⟩)
      have hB2 : Below w.heap.size w w2 := hB.trans (hb2.mono hB.size)
      show bodyPost _ _ _ Exit.ret _ _
      go_ret
      exact ⟨by rw [hr.out, hj.out]; rfl, hB2⟩
end Go.Proofs.YtbafofldgkigmaaGreatDoor
namespace Go.Proofs.YtbafofldgkigmaaGreatDoor

theorem span_len (of l : List UInt8) : (Gl.span of l).1.length + (Gl.span of l).2.length = l.length := by
  unfold Gl.span
  rw [← List.length_append, List.takeWhile_append_dropWhile]
theorem span_head (of l : List UInt8) : (Gl.span of l).2 = [] ∨ ∃ c, (Gl.span of l).2.head? = some c ∧ of.contains c = true := by
  unfold Gl.span
  induction l with
  | nil => exact Or.inl rfl
  | cons a r ih =>
    simp only [List.dropWhile_cons]
    split
    · exact ih
    · rename_i h
      exact Or.inr ⟨a, rfl, by simpa using h⟩
theorem span_path (l : List UInt8) : (Gl.span [63] (Gl.span [47, 63] l).2).1 = [] ∨ (Gl.span [63] (Gl.span [47, 63] l).2).1.head? = some 47 := by
  rcases span_head [47, 63] l with h | ⟨c, h, hc⟩
  · rw [h]; exact Or.inl rfl
  · cases hb : (Gl.span [47, 63] l).2 with
    | nil => exact Or.inl rfl
    | cons a r =>
      rw [hb] at h
      obtain rfl : a = c := by simpa using h
      have : a = 47 ∨ a = 63 := by simpa using hc
      rcases this with rfl | rfl
      · exact Or.inr rfl
      · exact Or.inl rfl

/-- A URL of http or https with its port, from what stands ahead of the path and from that on. -/
def done (s : Gl.Bs) (h : Gl.Host) (b : List UInt8) (port : Int) : Gl.URL × Int :=
  ({ scheme := s, host := h, port := port, path := Gl.clean (Gl.span [63] b).1, hasQuery := !(Gl.span [63] b).2.isEmpty, query := (Gl.span [63] b).2.drop 1 }, 0)
theorem web_slash (u : Gl.URL) (rest : List UInt8) (h : ([47, 47] : List UInt8).isPrefixOf rest = false) : Gl.web u rest = ({}, 30) := by
  unfold Gl.web; simp only [h]; rfl
theorem web_at (u : Gl.URL) (rest : List UInt8) (h : (Gl.span [47, 63] (rest.drop 2)).1.contains 64 = true) : Gl.web u rest = ({}, 30) := by
  unfold Gl.web
  split
  · rfl
  · simp only [h]; rfl
theorem web_more (u : Gl.URL) (rest : List UInt8) (h : ([47, 47] : List UInt8).isPrefixOf rest = true) (h2 : (Gl.span [47, 63] (rest.drop 2)).1.contains 64 = false) :
    Gl.web u rest = (if (Gl.hostParse (Gl.span [58] (Gl.span [47, 63] (rest.drop 2)).1).1).2 ≠ 0 then (({} : Gl.URL), (Gl.hostParse (Gl.span [58] (Gl.span [47, 63] (rest.drop 2)).1).1).2)
      else if 1 < (Gl.span [58] (Gl.span [47, 63] (rest.drop 2)).1).2.length then
        match Gl.number ((Gl.span [58] (Gl.span [47, 63] (rest.drop 2)).1).2.drop 1) 65535 with
        | none => ({}, 32)
        | some n => ({ u with host := (Gl.hostParse (Gl.span [58] (Gl.span [47, 63] (rest.drop 2)).1).1).1, port := if n = Gl.own u.scheme then u.port else n, path := Gl.clean (Gl.span [63] (Gl.span [47, 63] (rest.drop 2)).2).1, hasQuery := !(Gl.span [63] (Gl.span [47, 63] (rest.drop 2)).2).2.isEmpty, query := (Gl.span [63] (Gl.span [47, 63] (rest.drop 2)).2).2.drop 1 }, 0)
      else ({ u with host := (Gl.hostParse (Gl.span [58] (Gl.span [47, 63] (rest.drop 2)).1).1).1, port := u.port, path := Gl.clean (Gl.span [63] (Gl.span [47, 63] (rest.drop 2)).2).1, hasQuery := !(Gl.span [63] (Gl.span [47, 63] (rest.drop 2)).2).2.isEmpty, query := (Gl.span [63] (Gl.span [47, 63] (rest.drop 2)).2).2.drop 1 }, 0)) := by
  unfold Gl.web
  simp only [h, h2]
  rfl
theorem prefix2_len {rest : List UInt8} (h : ([47, 47] : List UInt8).isPrefixOf rest = true) : 2 ≤ rest.length := by
  rw [List.isPrefixOf_iff_prefix] at h
  exact h.length_le
end Go.Proofs.YtbafofldgkigmaaGreatDoor
namespace Go.Proofs.YtbafofldgkigmaaGreatDoor
open Go.RowKit
attribute [local irreducible] Calls

theorem Blk.new1 (w : World) (o : Obj) (t : TypeId) (cs : Array Value) : Blk ((w.alloc o).alloc (.cells cs t)) (w.heap.size + 1) t cs := by
  have := Blk.new (w.alloc o) t cs
  rwa [show (w.alloc o).heap.size = w.heap.size + 1 by simp] at this

set_option maxHeartbeats 2000000 in
set_option maxRecDepth 100000 in
theorem urlp_web (u : Gl.URL) (rest : List UInt8) (w : World) (hE : Env w) (hs : rest.length ≤ 1000000) :
    Calls Tryz.prog 54 #[(Value.agg #[(Value.string ⟨((u).scheme).toArray⟩), (Value.string ⟨(((u).host).name).toArray⟩), (Value.bool ((u).host).v4), (Value.int .u32 (((u).host).addr : Int)), (Value.int .i64 (u).port), (Value.string ⟨((u).path).toArray⟩), (Value.bool (u).hasQuery), (Value.string ⟨((u).query).toArray⟩), (Value.string ⟨((u).rest).toArray⟩)]), (Value.string ⟨(rest).toArray⟩), .int .i64 (Gl.own u.scheme)] w (Ret w (.tuple #[(Value.agg #[(Value.string ⟨(((Gl.web u rest).1).scheme).toArray⟩), (Value.string ⟨((((Gl.web u rest).1).host).name).toArray⟩), (Value.bool (((Gl.web u rest).1).host).v4), (Value.int .u32 ((((Gl.web u rest).1).host).addr : Int)), (Value.int .i64 ((Gl.web u rest).1).port), (Value.string ⟨(((Gl.web u rest).1).path).toArray⟩), (Value.bool ((Gl.web u rest).1).hasQuery), (Value.string ⟨(((Gl.web u rest).1).query).toArray⟩), (Value.string ⟨(((Gl.web u rest).1).rest).toArray⟩)]), .int .i64 (Gl.web u rest).2])) := by
  have hW1 := web_slash u rest
  have hA := web_at u rest
  have hM := web_more u rest
  generalize Gl.web u rest = R at *
  generalize hr0 : (if ([47, 47] : List UInt8).isPrefixOf rest then rest.drop ([47, 47] : List UInt8).length else rest) = r
  have hrl : r.length ≤ 1000000 := by
    rw [← hr0]
    split
    · rw [List.length_drop]; omega
    · omega
  generalize hsl : ([47, 47] : List UInt8).isPrefixOf rest = sl at *
  have hr1 : sl = true → r = rest.drop 2 := fun h => by rw [← hr0, if_pos h]; rfl
  have hcp : ∀ W, Calls Tryz.prog 83 #[(Value.string ⟨(rest).toArray⟩), (Value.string ⟨([47, 47]).toArray⟩)] W (Same W (.tuple #[(Value.string ⟨(r).toArray⟩), .bool sl])) := fun W => by
    have := cutPrefix_any rest [47, 47] W
    rw [hsl] at this
    rw [← hr0]
    exact this
  replace hr0 := Lib.hid hr0
  replace hsl := Lib.hid hsl
  generalize ho : Gl.own u.scheme = o at *
  replace ho := Lib.hid ho
  generalize hab : Gl.span [47, 63] r = ab at *
  obtain ⟨a, b⟩ := ab
  replace hab := Lib.hid hab
  go_enter Tryz.func54, Tryz.ntmps54
  go_upto_block 0 with (go_at_call 83; refine ( hcp _).mono ?_; rintro e w1 ⟨rfl, rfl⟩)
  go_cut [2, 3, 6, 7, 8, 9, 10] (fun o1 p1 p2 z sv au be w' => o1 = .int .i64 o ∧ p1 = .pointer (some ⟨w.heap.size, 0, none⟩) ∧ p2 = .pointer (some ⟨w.heap.size + 1, 0, none⟩) ∧ z = .int .i64 0 ∧ sv = .bool sl ∧ au = (Value.string ⟨(a).toArray⟩) ∧ be = (Value.string ⟨(b).toArray⟩) ∧ Below w.heap.size w w' ∧ Blk w' w.heap.size 28 #[(Value.string ⟨((u).scheme).toArray⟩), (Value.string ⟨(((u).host).name).toArray⟩), (Value.bool ((u).host).v4), (Value.int .u32 (((u).host).addr : Int)), (Value.int .i64 (u).port), (Value.string ⟨((u).path).toArray⟩), (Value.bool (u).hasQuery), (Value.string ⟨((u).query).toArray⟩), (Value.string ⟨((u).rest).toArray⟩)] ∧ Blk w' (w.heap.size + 1) 28 #[(Value.string ⟨#[]⟩), (Value.string ⟨#[]⟩), (Value.bool false), (Value.int .u32 0), (Value.int .i64 0), (Value.string ⟨#[]⟩), (Value.bool false), (Value.string ⟨#[]⟩), (Value.string ⟨#[]⟩)])
  case first =>
    go_wp2
    go_loop [9, 10, 30] (fun au be i => ∃ k : Nat, k ≤ r.length ∧ i = .int .i64 k ∧ au = (Value.string ⟨(r).toArray⟩) ∧ be = (Value.string ⟨([]).toArray⟩) ∧ Hid ((r.take k).all (fun c => !([47, 63] : List UInt8).contains c) = true)) (fun _ _ i => r.length - (intOf i).toNat)
    case atStart => exact ⟨0, by omega, rfl, rfl, rfl, Lib.hid rfl⟩
    case round =>
      obtain ⟨k, hk, rfl, rfl, rfl, hr⟩ := hrel
      by_cases hlt : k < r.length
      · cases hc : ([47, 63] : List UInt8).contains r[k] with
        | true =>
          have hf : Hid ((a, b) = (r.take k, r.drop k)) := Lib.hid (by rw [← hab.out, span_go [47, 63] r k hr.out hlt hc])
          have hf1 : a = r.take k := congrArg Prod.fst hf.out
          have hf2 : b = r.drop k := congrArg Prod.snd hf.out
          replace hf1 := Lib.hid hf1
          replace hf2 := Lib.hid hf2
          clear hf
          have hcc : r[k] = 47 ∨ r[k] = 63 := by simpa using hc
          rcases hcc with hcc | hcc
          · have hc1 : (r[k]).toNat = 47 := by rw [hcc]; rfl
            replace hcc := Lib.hid hcc
            replace hc := Lib.hid hc
            go_wp2
            go_quiet (fail)
            go_wp2
            go_meet
            exact ⟨rfl, rfl, rfl, rfl, rfl, by rw [hf1.out], by rw [hf2.out], bw_, (((Blk.new w _ _).alloc _).drewN _), ((Blk.new1 w _ _ _).drewN _)⟩
          · have hc1 : (r[k]).toNat = 63 := by rw [hcc]; rfl
            replace hcc := Lib.hid hcc
            replace hc := Lib.hid hc
            go_wp2
            go_quiet (fail)
            go_wp2
            go_meet
            exact ⟨rfl, rfl, rfl, rfl, rfl, by rw [hf1.out], by rw [hf2.out], bw_, (((Blk.new w _ _).alloc _).drewN _), ((Blk.new1 w _ _ _).drewN _)⟩
        | false =>
          have hf : Hid ((r.take (k + 1)).all (fun c => !([47, 63] : List UInt8).contains c) = true) := Lib.hid (by rw [List.take_succ_eq_append_getElem hlt, List.all_append, hr.out]; simp at hc ⊢; exact hc)
          have hc1 : ((r[k].toNat : Int) == 47) = false := by
            rw [beq_eq_false_iff_ne]
            intro h
            have : r[k] = 47 := UInt8.toNat_inj.1 (by simp; omega)
            rw [this] at hc; simp at hc
          have hc2 : ((r[k].toNat : Int) == 63) = false := by
            rw [beq_eq_false_iff_ne]
            intro h
            have : r[k] = 63 := UInt8.toNat_inj.1 (by simp; omega)
            rw [this] at hc; simp at hc
          replace hc := Lib.hid hc
          go_wp2
          go_round
          case rel => exact ⟨k + 1, by omega, by go_num, rfl, rfl, hf⟩
          case measure => simp [intOf]; omega
      · have hf : Hid ((a, b) = (r, [])) := Lib.hid (by rw [← hab.out, span_all]; rw [← hr.out, List.take_of_length_le (by omega)])
        have hf1 : a = r := congrArg Prod.fst hf.out
        have hf2 : b = [] := congrArg Prod.snd hf.out
        replace hf1 := Lib.hid hf1
        replace hf2 := Lib.hid hf2
        clear hf
        go_wp2
        go_meet
        exact ⟨rfl, rfl, rfl, rfl, rfl, by rw [hf1.out], by rw [hf2.out], bw_, ((Blk.new w _ _).alloc _), (Blk.new1 w _ _ _)⟩
  case rest =>
    obtain ⟨rfl, rfl, rfl, rfl, rfl, rfl, rfl, hw, hB1, hB2⟩ := hcut
    have hs0 := hB1.lt
    have hs1 := hB2.lt
    have hc1 := hB1.cell
    have hc2 := hB2.cell
    have hz1 := hB1.frozen
    have hz2 := hB2.frozen
    clear hcp
    cases sl with
    | false =>
      have hR := Lib.hid (hW1 rfl)
      clear hM hA hW1 hr1
      go_wp2_with (fail)
      refine bodyPost_ret (v := (.tuple #[(Value.agg #[(Value.string ⟨#[]⟩), (Value.string ⟨#[]⟩), (Value.bool false), (Value.int .u32 0), (Value.int .i64 0), (Value.string ⟨#[]⟩), (Value.bool false), (Value.string ⟨#[]⟩), (Value.string ⟨#[]⟩)]), .int .i64 30])) (by simp only [results, Tryz.results54]; go_simp) rfl ⟨by rw [ hR.out] <;> rfl, ?_⟩; (exact bw_)
    | true =>
      have hrr := hr1 rfl
      replace hM := hM rfl
      rw [← hrr, hab.out] at hM hA
      have hpath := span_path r
      have hsl2 := span_len [47, 63] r
      rw [hab.out] at hpath hsl2
      simp only at hM hsl2 hpath hA
      clear hW1 hr1
      cases hat : a.contains 64 with
      | true =>
        have hR := Lib.hid (hA hat)
        clear hM hpath hA
        go_wp2_with (go_at_call 82; refine (indexByte_yes a 64 _ hat).mono ?_; rintro e w1 ⟨n, rfl, rfl⟩)
        refine bodyPost_ret (v := (.tuple #[(Value.agg #[(Value.string ⟨#[]⟩), (Value.string ⟨#[]⟩), (Value.bool false), (Value.int .u32 0), (Value.int .i64 0), (Value.string ⟨#[]⟩), (Value.bool false), (Value.string ⟨#[]⟩), (Value.string ⟨#[]⟩)]), .int .i64 30])) (by simp only [results, Tryz.results54]; go_simp) rfl ⟨by rw [ hR.out] <;> rfl, ?_⟩; (exact bw_)
      | false =>
        replace hM := hM hat
        clear hA
        have hnl := span_len [58] a
        have hcut1 := fun (W : World) (hW : Below w.heap.size w W) => cut_any a 58 W (hE.below hW) (by omega)
        generalize hnp : Gl.span [58] a = np at *
        obtain ⟨nm, p⟩ := np
        have hbl := span_len [63] b
        have hcut2 := fun (W : World) (hW : Below w.heap.size w W) => cut_any b 63 W (hE.below hW) (by omega)
        generalize hpq : Gl.span [63] b = pq at *
        obtain ⟨pa, q⟩ := pq
        simp only [List.drop_one] at hM hnl hbl hpath hcut1 hcut2
        have hclean := fun (W : World) (hW : Below w.heap.size w W) => urlp_clean pa W (hE.below hW) (by omega) hpath
        generalize hh : Gl.hostParse nm = h at *
        obtain ⟨h, e⟩ := h
        generalize hcl : Gl.clean pa = cl at *
        simp only at hM
        replace hnp := Lib.hid hnp
        replace hpq := Lib.hid hpq
        replace hh := Lib.hid hh
        replace hcl := Lib.hid hcl
        replace hcut1 := Lib.hid hcut1
        replace hcut2 := Lib.hid hcut2
        replace hclean := Lib.hid hclean
        clear hpath
        by_cases he : e = 0
        · have he1 : (e != 0) = false := by rw [he]; rfl
          rw [if_neg (fun h => h he)] at hM
          replace he := Lib.hid he
          by_cases hp1 : 1 < p.length
          · rw [if_pos hp1] at hM
            have hpt : (p.tail == []) = false := by
              cases p with
              | nil => simp at hp1
              | cons x y => cases y with
                | nil => simp at hp1
                | cons y z => rfl
            cases hn : Gl.number p.tail 65535 with
            | none =>
              rw [hn] at hM
              replace hM : Hid (R = ({}, 32)) := Lib.hid hM
              replace hn := Lib.hid hn
              go_wp2_with (first | (go_at_call 82; refine ( indexByte_no a 64 _ hat).mono ?_; rintro e w1 ⟨rfl, rfl⟩) | (go_at_call 50; refine (hcut1.out _ (bw_)).mono ?_; rintro e w1 ⟨rfl, hb⟩; obtain ⟨hc, hfz⟩ := bcell hb; have hz := hb.size; (try simp at hz); (try have hz0 := lt_ hb w.heap.size); (try have hz1 := lt_ hb (w.heap.size + 1)); (try have hz2 := lt_ hb (w.heap.size + 2)); (try have hz3 := lt_ hb (w.heap.size + 3)); (try have hcA := fun o => hc w.heap.size o sz_); (try have hcB := fun o => hc (w.heap.size + 1) o sz_)) | (go_at_call 84; refine (hh.out ▸ host_parse nm _ (by omega)).mono ?_; rintro e w1 ⟨rfl, hb⟩; obtain ⟨hc, hfz⟩ := bcell hb; have hz := hb.size; (try simp at hz); (try have hz0 := lt_ hb w.heap.size); (try have hz1 := lt_ hb (w.heap.size + 1)); (try have hz2 := lt_ hb (w.heap.size + 2)); (try have hz3 := lt_ hb (w.heap.size + 3)); (try have hcA := fun o => hc w.heap.size o sz_); (try have hcB := fun o => hc (w.heap.size + 1) o sz_)) | (go_at_call 85; refine ( octet_number_none p.tail 65535 _ (by rw [List.length_tail]; omega) (by omega) (by omega) hn.out).mono ?_; rintro e w1 ⟨rfl, rfl⟩))
              refine bodyPost_ret (v := (.tuple #[(Value.agg #[(Value.string ⟨#[]⟩), (Value.string ⟨#[]⟩), (Value.bool false), (Value.int .u32 0), (Value.int .i64 0), (Value.string ⟨#[]⟩), (Value.bool false), (Value.string ⟨#[]⟩), (Value.string ⟨#[]⟩)]), .int .i64 32])) (by simp only [results, Tryz.results54]; go_simp) rfl ⟨by rw [ hM.out] <;> rfl, ?_⟩; (exact bw_)
            | some n =>
              rw [hn] at hM
              obtain ⟨hn0, hn1⟩ := number_range (by omega) hn
              replace hn := Lib.hid hn
              by_cases hno : n = o
              · have hno1 : (n != o) = false := by rw [hno]; simp
                simp only [if_pos hno] at hM
                replace hM := Lib.hid hM
                replace hno := Lib.hid hno
                go_wp2_with (first | (go_at_call 82; refine ( indexByte_no a 64 _ hat).mono ?_; rintro e w1 ⟨rfl, rfl⟩) | ((first | (go_at_call 50; refine (hcut1.out _ (bw_)).mono ?_) | (go_at_call 50; refine (hcut2.out _ (bw_)).mono ?_) | (go_at_call 86; refine (hclean.out _ (bw_)).mono ?_)); rintro e w1 ⟨rfl, hb⟩; obtain ⟨hc, hfz⟩ := bcell hb; have hz := hb.size; (try simp at hz); (try have hz0 := lt_ hb w.heap.size); (try have hz1 := lt_ hb (w.heap.size + 1)); (try have hz2 := lt_ hb (w.heap.size + 2)); (try have hz3 := lt_ hb (w.heap.size + 3)); (try have hcA := fun o => hc w.heap.size o sz_); (try have hcB := fun o => hc (w.heap.size + 1) o sz_)) | (go_at_call 84; refine (hh.out ▸ host_parse nm _ (by omega)).mono ?_; rintro e w1 ⟨rfl, hb⟩; obtain ⟨hc, hfz⟩ := bcell hb; have hz := hb.size; (try simp at hz); (try have hz0 := lt_ hb w.heap.size); (try have hz1 := lt_ hb (w.heap.size + 1)); (try have hz2 := lt_ hb (w.heap.size + 2)); (try have hz3 := lt_ hb (w.heap.size + 3)); (try have hcA := fun o => hc w.heap.size o sz_); (try have hcB := fun o => hc (w.heap.size + 1) o sz_)) | (go_at_call 85; refine ( octet_number_some p.tail 65535 n _ (by rw [List.length_tail]; omega) (by omega) (by omega) hn.out).mono ?_; rintro e w1 ⟨rfl, rfl⟩))
                refine bodyPost_ret (v := (.tuple #[(Value.agg #[(Value.string ⟨(u.scheme).toArray⟩), (Value.string ⟨((h).name).toArray⟩), (Value.bool (h).v4), (Value.int .u32 ((h).addr : Int)), (Value.int .i64 u.port), (Value.string ⟨(cl).toArray⟩), (Value.bool (!q.isEmpty)), (Value.string ⟨(q.tail).toArray⟩), (Value.string ⟨(u.rest).toArray⟩)]), .int .i64 0])) (by simp only [results, Tryz.results54]; go_simp) rfl ⟨by rw [ hM.out] <;> rfl, ?_⟩; (exact bw_)
              · have hno1 : (n != o) = true := by rw [bne_iff_ne]; exact hno
                simp only [if_neg hno] at hM
                replace hM := Lib.hid hM
                replace hno := Lib.hid hno
                go_wp2_with (first | (go_at_call 82; refine ( indexByte_no a 64 _ hat).mono ?_; rintro e w1 ⟨rfl, rfl⟩) | ((first | (go_at_call 50; refine (hcut1.out _ (bw_)).mono ?_) | (go_at_call 50; refine (hcut2.out _ (bw_)).mono ?_) | (go_at_call 86; refine (hclean.out _ (bw_)).mono ?_)); rintro e w1 ⟨rfl, hb⟩; obtain ⟨hc, hfz⟩ := bcell hb; have hz := hb.size; (try simp at hz); (try have hz0 := lt_ hb w.heap.size); (try have hz1 := lt_ hb (w.heap.size + 1)); (try have hz2 := lt_ hb (w.heap.size + 2)); (try have hz3 := lt_ hb (w.heap.size + 3)); (try have hcA := fun o => hc w.heap.size o sz_); (try have hcB := fun o => hc (w.heap.size + 1) o sz_)) | (go_at_call 84; refine (hh.out ▸ host_parse nm _ (by omega)).mono ?_; rintro e w1 ⟨rfl, hb⟩; obtain ⟨hc, hfz⟩ := bcell hb; have hz := hb.size; (try simp at hz); (try have hz0 := lt_ hb w.heap.size); (try have hz1 := lt_ hb (w.heap.size + 1)); (try have hz2 := lt_ hb (w.heap.size + 2)); (try have hz3 := lt_ hb (w.heap.size + 3)); (try have hcA := fun o => hc w.heap.size o sz_); (try have hcB := fun o => hc (w.heap.size + 1) o sz_)) | (go_at_call 85; refine ( octet_number_some p.tail 65535 n _ (by rw [List.length_tail]; omega) (by omega) (by omega) hn.out).mono ?_; rintro e w1 ⟨rfl, rfl⟩))
                refine bodyPost_ret (v := (.tuple #[(Value.agg #[(Value.string ⟨(u.scheme).toArray⟩), (Value.string ⟨((h).name).toArray⟩), (Value.bool (h).v4), (Value.int .u32 ((h).addr : Int)), (Value.int .i64 n), (Value.string ⟨(cl).toArray⟩), (Value.bool (!q.isEmpty)), (Value.string ⟨(q.tail).toArray⟩), (Value.string ⟨(u.rest).toArray⟩)]), .int .i64 0])) (by simp only [results, Tryz.results54]; go_simp) rfl ⟨by rw [ hM.out] <;> rfl, ?_⟩; (exact bw_)
          · rw [if_neg hp1] at hM
            replace hM := Lib.hid hM
            have hpt : p.tail = [] := List.eq_nil_of_length_eq_zero (by rw [List.length_tail]; omega)
            go_wp2_with (first | (go_at_call 82; refine ( indexByte_no a 64 _ hat).mono ?_; rintro e w1 ⟨rfl, rfl⟩) | ((first | (go_at_call 50; refine (hcut1.out _ (bw_)).mono ?_) | (go_at_call 50; refine (hcut2.out _ (bw_)).mono ?_) | (go_at_call 86; refine (hclean.out _ (bw_)).mono ?_)); rintro e w1 ⟨rfl, hb⟩; obtain ⟨hc, hfz⟩ := bcell hb; have hz := hb.size; (try simp at hz); (try have hz0 := lt_ hb w.heap.size); (try have hz1 := lt_ hb (w.heap.size + 1)); (try have hz2 := lt_ hb (w.heap.size + 2)); (try have hz3 := lt_ hb (w.heap.size + 3)); (try have hcA := fun o => hc w.heap.size o sz_); (try have hcB := fun o => hc (w.heap.size + 1) o sz_)) | (go_at_call 84; refine (hh.out ▸ host_parse nm _ (by omega)).mono ?_; rintro e w1 ⟨rfl, hb⟩; obtain ⟨hc, hfz⟩ := bcell hb; have hz := hb.size; (try simp at hz); (try have hz0 := lt_ hb w.heap.size); (try have hz1 := lt_ hb (w.heap.size + 1)); (try have hz2 := lt_ hb (w.heap.size + 2)); (try have hz3 := lt_ hb (w.heap.size + 3)); (try have hcA := fun o => hc w.heap.size o sz_); (try have hcB := fun o => hc (w.heap.size + 1) o sz_)))
            refine bodyPost_ret (v := (.tuple #[(Value.agg #[(Value.string ⟨(u.scheme).toArray⟩), (Value.string ⟨((h).name).toArray⟩), (Value.bool (h).v4), (Value.int .u32 ((h).addr : Int)), (Value.int .i64 u.port), (Value.string ⟨(cl).toArray⟩), (Value.bool (!q.isEmpty)), (Value.string ⟨(q.tail).toArray⟩), (Value.string ⟨(u.rest).toArray⟩)]), .int .i64 0])) (by simp only [results, Tryz.results54]; go_simp) rfl ⟨by rw [ hM.out] <;> rfl, ?_⟩; (exact bw_)
        · have he1 : (e != 0) = true := by rw [bne_iff_ne]; exact he
          rw [if_pos he] at hM
          replace hM := Lib.hid hM
          replace he := Lib.hid he
          go_wp2_with (first | (go_at_call 82; refine ( indexByte_no a 64 _ hat).mono ?_; rintro e w1 ⟨rfl, rfl⟩) | (go_at_call 50; refine (hcut1.out _ (bw_)).mono ?_; rintro e w1 ⟨rfl, hb⟩; obtain ⟨hc, hfz⟩ := bcell hb; have hz := hb.size; (try simp at hz); (try have hz0 := lt_ hb w.heap.size); (try have hz1 := lt_ hb (w.heap.size + 1)); (try have hz2 := lt_ hb (w.heap.size + 2)); (try have hz3 := lt_ hb (w.heap.size + 3)); (try have hcA := fun o => hc w.heap.size o sz_); (try have hcB := fun o => hc (w.heap.size + 1) o sz_)) | (go_at_call 84; refine (hh.out ▸ host_parse nm _ (by omega)).mono ?_; rintro e w1 ⟨rfl, hb⟩; obtain ⟨hc, hfz⟩ := bcell hb; have hz := hb.size; (try simp at hz); (try have hz0 := lt_ hb w.heap.size); (try have hz1 := lt_ hb (w.heap.size + 1)); (try have hz2 := lt_ hb (w.heap.size + 2)); (try have hz3 := lt_ hb (w.heap.size + 3)); (try have hcA := fun o => hc w.heap.size o sz_); (try have hcB := fun o => hc (w.heap.size + 1) o sz_)))
          refine bodyPost_ret (v := (.tuple #[(Value.agg #[(Value.string ⟨#[]⟩), (Value.string ⟨#[]⟩), (Value.bool false), (Value.int .u32 0), (Value.int .i64 0), (Value.string ⟨#[]⟩), (Value.bool false), (Value.string ⟨#[]⟩), (Value.string ⟨#[]⟩)]), .int .i64 e])) (by simp only [results, Tryz.results54]; go_simp) rfl ⟨by rw [ hM.out] <;> rfl, ?_⟩; (exact bw_)
end Go.Proofs.YtbafofldgkigmaaGreatDoor
namespace Go.Proofs.YtbafofldgkigmaaGreatDoor

def badC (c : UInt8) : Bool := decide (c.toNat < 33 ∨ 126 < c.toNat)
/-- What follows behind the scheme and the number sign. -/
def core2 (inner : Gl.Bs → Bool) (sc rest : Gl.Bs) : Gl.URL × Int :=
  if rest.any badC then ({}, 30)
  else if Gl.isNet { scheme := sc, port := -1 } then Gl.web { scheme := sc, port := -1 } rest
  else if sc = Gl.about ∧ rest ≠ Gl.bblank ∧ rest ≠ Gl.srcdoc then ({}, 30)
  else if sc = Gl.blob ∧ !Gl.nullS.isPrefixOf rest ∧ !inner rest then ({}, 30)
  else ({ scheme := sc, port := -1, rest := rest }, 0)
def known (sc : Gl.Bs) : Bool := sc == Gl.http || sc == Gl.https || sc == Gl.about || sc == Gl.data || sc == Gl.blob

theorem core_long (inner : Gl.Bs → Bool) (s : List UInt8) (h : 2000 < (Gl.trim s).length) : Gl.core inner s = ({}, 30) := by
  unfold Gl.core; simp only; rw [if_pos h]
theorem core_form (inner : Gl.Bs → Bool) (s : List UInt8) (h : (Gl.span [58] (Gl.trim s)).2 = [] ∨ Gl.scheme (Gl.lower (Gl.span [58] (Gl.trim s)).1) = false) : Gl.core inner s = ({}, 30) := by
  unfold Gl.core; simp only
  by_cases h0 : 2000 < (Gl.trim s).length
  · rw [if_pos h0]
  · rw [if_neg h0, if_pos h]
theorem core_rest (inner : Gl.Bs → Bool) (s : List UInt8) (h : ¬ 2000 < (Gl.trim s).length) (h1 : (Gl.span [58] (Gl.trim s)).2 ≠ []) (h2 : Gl.scheme (Gl.lower (Gl.span [58] (Gl.trim s)).1) = true) :
    Gl.core inner s = if known (Gl.lower (Gl.span [58] (Gl.trim s)).1) then core2 inner (Gl.lower (Gl.span [58] (Gl.trim s)).1) (Gl.span [35] ((Gl.span [58] (Gl.trim s)).2.drop 1)).1 else ({}, 31) := by
  unfold Gl.core
  simp only
  rw [if_neg h, if_neg (by rintro (h | h) <;> simp_all)]
  generalize Gl.lower (Gl.span [58] (Gl.trim s)).1 = sc
  generalize (Gl.span [35] ((Gl.span [58] (Gl.trim s)).2.drop 1)).1 = rest
  unfold known core2 Gl.isNet
  by_cases a1 : sc = Gl.http
  · subst a1; rfl
  by_cases a2 : sc = Gl.https
  · subst a2; rfl
  by_cases a3 : sc = Gl.about
  · subst a3; rfl
  by_cases a4 : sc = Gl.data
  · subst a4; rfl
  by_cases a5 : sc = Gl.blob
  · subst a5; rfl
  have b1 : (sc == Gl.http) = false := by rw [beq_eq_false_iff_ne]; exact a1
  have b2 : (sc == Gl.https) = false := by rw [beq_eq_false_iff_ne]; exact a2
  have b3 : (sc == Gl.about) = false := by rw [beq_eq_false_iff_ne]; exact a3
  have b4 : (sc == Gl.data) = false := by rw [beq_eq_false_iff_ne]; exact a4
  have b5 : (sc == Gl.blob) = false := by rw [beq_eq_false_iff_ne]; exact a5
  simp [b1, b2, b3, b4, b5, bne]
theorem core2_bad (inner : Gl.Bs → Bool) (sc rest : Gl.Bs) (h : rest.any badC = true) : core2 inner sc rest = ({}, 30) := by unfold core2; rw [if_pos h]
theorem core2_net (inner : Gl.Bs → Bool) (sc rest : Gl.Bs) (h : rest.any badC = false) (hn : sc = Gl.http ∨ sc = Gl.https) : core2 inner sc rest = Gl.web { scheme := sc, port := -1 } rest := by
  unfold core2
  rw [if_neg (by simp [h])]
  rcases hn with rfl | rfl <;> rfl
theorem core2_about (inner : Gl.Bs → Bool) (rest : Gl.Bs) (h : rest.any badC = false) : core2 inner Gl.about rest = if rest ≠ Gl.bblank ∧ rest ≠ Gl.srcdoc then ({}, 30) else ({ scheme := Gl.about, port := -1, rest := rest }, 0) := by
  unfold core2
  rw [if_neg (by simp [h]), if_neg (by decide)]
  by_cases hc : rest ≠ Gl.bblank ∧ rest ≠ Gl.srcdoc
  · rw [if_pos ⟨rfl, hc⟩, if_pos hc]
  · rw [if_neg (fun h => hc h.2), if_neg hc, if_neg (fun h => absurd h.1 (by decide))]
theorem core2_data (inner : Gl.Bs → Bool) (rest : Gl.Bs) (h : rest.any badC = false) : core2 inner Gl.data rest = ({ scheme := Gl.data, port := -1, rest := rest }, 0) := by
  unfold core2
  rw [if_neg (by simp [h]), if_neg (by decide), if_neg (fun h => absurd h.1 (by decide)), if_neg (fun h => absurd h.1 (by decide))]
theorem core2_blob (inner : Gl.Bs → Bool) (rest : Gl.Bs) (h : rest.any badC = false) : core2 inner Gl.blob rest = if Gl.nullS.isPrefixOf rest || inner rest then ({ scheme := Gl.blob, port := -1, rest := rest }, 0) else ({}, 30) := by
  unfold core2
  rw [if_neg (by simp [h]), if_neg (by decide), if_neg (fun h => absurd h.1 (by decide))]
  cases Gl.nullS.isPrefixOf rest <;> cases inner rest <;> simp
theorem known_cases {sc : Gl.Bs} (h : known sc = true) : sc = Gl.http ∨ sc = Gl.https ∨ sc = Gl.about ∨ sc = Gl.data ∨ sc = Gl.blob := by
  unfold known at h
  simp only [Bool.or_eq_true, beq_iff_eq] at h
  rcases h with (((h | h) | h) | h) | h <;> simp [h]
/-- The inner text's answer does not matter to a URL of http or https. -/
theorem net_parse (s : Gl.Bs) : Gl.netText s = ((Gl.parse s).2 == 0 && Gl.isNet (Gl.parse s).1) := by
  unfold Gl.netText Gl.parse
  by_cases h : 2000 < (Gl.trim s).length
  · rw [core_long _ _ h, core_long _ _ h]
  by_cases h1 : (Gl.span [58] (Gl.trim s)).2 = [] ∨ Gl.scheme (Gl.lower (Gl.span [58] (Gl.trim s)).1) = false
  · rw [core_form _ _ h1, core_form _ _ h1]
  have h2 : (Gl.span [58] (Gl.trim s)).2 ≠ [] := fun e => h1 (Or.inl e)
  have h3 : Gl.scheme (Gl.lower (Gl.span [58] (Gl.trim s)).1) = true := by
    cases hh : Gl.scheme (Gl.lower (Gl.span [58] (Gl.trim s)).1) with
    | true => rfl
    | false => exact absurd (Or.inr hh) h1
  rw [core_rest _ _ h h2 h3, core_rest _ _ h h2 h3]
  generalize Gl.lower (Gl.span [58] (Gl.trim s)).1 = sc
  generalize (Gl.span [35] ((Gl.span [58] (Gl.trim s)).2.drop 1)).1 = rest
  cases hk : known sc with
  | false => rfl
  | true =>
    simp only [if_true]
    cases hb : rest.any badC with
    | true => rw [core2_bad _ _ _ hb, core2_bad _ _ _ hb]
    | false =>
      rcases known_cases hk with rfl | rfl | rfl | rfl | rfl
      · rw [core2_net _ _ _ hb (Or.inl rfl), core2_net _ _ _ hb (Or.inl rfl)]
      · rw [core2_net _ _ _ hb (Or.inr rfl), core2_net _ _ _ hb (Or.inr rfl)]
      · rw [core2_about _ _ hb, core2_about _ _ hb]
      · rw [core2_data _ _ hb, core2_data _ _ hb]
      · rw [core2_blob _ _ hb, core2_blob _ _ hb]
        have e1 : Gl.isNet ({ scheme := Gl.blob, port := -1, rest := rest } : Gl.URL) = false := rfl
        have e2 : Gl.isNet ({} : Gl.URL) = false := by decide
        split <;> split <;> simp [e1, e2]
theorem dropWhile_len (p : UInt8 → Bool) (l : List UInt8) : (l.dropWhile p).length ≤ l.length := (List.dropWhile_sublist p).length_le
theorem trim_len (s : List UInt8) : (Gl.trim s).length ≤ s.length := by
  unfold Gl.trim Gl.trimR Gl.trimL
  have h1 := dropWhile_len Gl.blank s
  have h2 := dropWhile_len Gl.blank (s.dropWhile Gl.blank).reverse
  rw [List.length_reverse] at h2 ⊢
  omega
end Go.Proofs.YtbafofldgkigmaaGreatDoor
namespace Go.Proofs.YtbafofldgkigmaaGreatDoor
open Go.RowKit

theorem run_put {P : Program} (w : World) (mty kt et : TypeId) (s : ByteArray) (val : Value) (es : Array MapEntry) (clock : Nat) (hm : P.underlying mty = some (.map kt et)) (hk : P.underlying kt = some .string)
    (hf : Instr.findNow .string (.string s) es.toList 0 = some none) :
    (Instr.mapUpdate mty (.map (some w.heap.size)) (.string s) val).run P (w.alloc (.map es clock)) = .ok () (w.alloc (.map (es.push { key := .string s, val := val, born := clock }) (clock + 1))) := by
  have hb : (w.alloc (.map es clock)).heap[w.heap.size]? = some (.map es clock) := heap_alloc_new w _
  have hc : (Instr.checkKey false 10000 kt (.string s)).run P (w.alloc (.map es clock)) = .ok () (w.alloc (.map es clock)) := MapKept.run_checkKey (k := .string s) hk (by simp [MapKept.IsKey]) false 9999
  simp [Instr.mapUpdate, run_underlying hm, MapKept.run_getObj_map hb, hc, MapKept.run_findKey hk hf, MapKept.run_setObj_map _ hb, Result.andThen]
  have hset : ∀ (a : Array Obj) (x y : Obj), (a.push x).setIfInBounds a.size y = a.push y := by
    intro a x y
    apply Array.ext'
    simp [List.set_append_right]
  simp only [World.alloc, hset]

theorem run_get {P : Program} (w : World) (mty kt et : TypeId) (r : Nat) (s : ByteArray) (es : Array MapEntry) (clock : Nat) (z : Value) (res : Option (Nat × Value)) (hm : P.underlying mty = some (.map kt et)) (hk : P.underlying kt = some .string)
    (hz : (zeroValue et).run P w = .ok z w) (hb : w.heap[r]? = some (.map es clock)) (hf : Instr.findNow .string (.string s) es.toList 0 = some res) :
    (Instr.lookup mty (.map (some r)) (.string s) true).run P w = .ok (.tuple #[(res.map (·.2)).getD z, .bool res.isSome]) w := by
  have hc : ∀ b, (Instr.checkKey b 10000 kt (.string s)).run P w = .ok () w := fun b => MapKept.run_checkKey (k := .string s) hk (by simp [MapKept.IsKey]) b 9999
  cases res with
  | none => simp [Instr.lookup, run_underlying hm, MapKept.run_getObj_map hb, hc, MapKept.run_findKey hk hf, hz, Result.andThen]
  | some x => simp [Instr.lookup, run_underlying hm, MapKept.run_getObj_map hb, hc, MapKept.run_findKey hk hf, Result.andThen]

def portsMap : Array MapEntry := #[{ key := .string ⟨#[104, 116, 116, 112]⟩, val := .int .i64 80, born := 0 }, { key := .string ⟨#[104, 116, 116, 112, 115]⟩, val := .int .i64 443, born := 1 }, { key := .string ⟨#[97, 98, 111, 117, 116]⟩, val := .int .i64 (-1), born := 2 }, { key := .string ⟨#[100, 97, 116, 97]⟩, val := .int .i64 (-1), born := 3 }, { key := .string ⟨#[98, 108, 111, 98]⟩, val := .int .i64 (-1), born := 4 }]

set_option maxRecDepth 100000 in
theorem urlp_ports (w : World) : Calls Tryz.prog 52 #[] w (fun e w' => e = .returned (.map (some w.heap.size)) ∧ w' = w.alloc (.map portsMap 5)) := by
  have hmm := @run_makeMap Tryz.prog
  have p1 : (Instr.mapUpdate 99 (.map (some w.heap.size)) (.string ⟨#[104, 116, 116, 112]⟩) (.int .i64 80)).run Tryz.prog (w.alloc (.map (#[] : Array MapEntry) 0)) = .ok () (w.alloc (.map (#[{ key := .string ⟨#[104, 116, 116, 112]⟩, val := .int .i64 80, born := 0 }] : Array MapEntry) 1)) :=
    run_put (P := Tryz.prog) w 99 9 3 _ _ (#[] : Array MapEntry) 0 Tryz.underlying99 Tryz.underlying9 (by kernel_rfl)
  have p2 : (Instr.mapUpdate 99 (.map (some w.heap.size)) (.string ⟨#[104, 116, 116, 112, 115]⟩) (.int .i64 443)).run Tryz.prog (w.alloc (.map (#[{ key := .string ⟨#[104, 116, 116, 112]⟩, val := .int .i64 80, born := 0 }] : Array MapEntry) 1)) = .ok () (w.alloc (.map (#[{ key := .string ⟨#[104, 116, 116, 112]⟩, val := .int .i64 80, born := 0 }, { key := .string ⟨#[104, 116, 116, 112, 115]⟩, val := .int .i64 443, born := 1 }] : Array MapEntry) 2)) :=
    run_put (P := Tryz.prog) w 99 9 3 _ _ (#[{ key := .string ⟨#[104, 116, 116, 112]⟩, val := .int .i64 80, born := 0 }] : Array MapEntry) 1 Tryz.underlying99 Tryz.underlying9 (by kernel_rfl)
  have p3 : (Instr.mapUpdate 99 (.map (some w.heap.size)) (.string ⟨#[97, 98, 111, 117, 116]⟩) (.int .i64 (-1))).run Tryz.prog (w.alloc (.map (#[{ key := .string ⟨#[104, 116, 116, 112]⟩, val := .int .i64 80, born := 0 }, { key := .string ⟨#[104, 116, 116, 112, 115]⟩, val := .int .i64 443, born := 1 }] : Array MapEntry) 2)) = .ok () (w.alloc (.map (#[{ key := .string ⟨#[104, 116, 116, 112]⟩, val := .int .i64 80, born := 0 }, { key := .string ⟨#[104, 116, 116, 112, 115]⟩, val := .int .i64 443, born := 1 }, { key := .string ⟨#[97, 98, 111, 117, 116]⟩, val := .int .i64 (-1), born := 2 }] : Array MapEntry) 3)) :=
    run_put (P := Tryz.prog) w 99 9 3 _ _ (#[{ key := .string ⟨#[104, 116, 116, 112]⟩, val := .int .i64 80, born := 0 }, { key := .string ⟨#[104, 116, 116, 112, 115]⟩, val := .int .i64 443, born := 1 }] : Array MapEntry) 2 Tryz.underlying99 Tryz.underlying9 (by kernel_rfl)
  have p4 : (Instr.mapUpdate 99 (.map (some w.heap.size)) (.string ⟨#[100, 97, 116, 97]⟩) (.int .i64 (-1))).run Tryz.prog (w.alloc (.map (#[{ key := .string ⟨#[104, 116, 116, 112]⟩, val := .int .i64 80, born := 0 }, { key := .string ⟨#[104, 116, 116, 112, 115]⟩, val := .int .i64 443, born := 1 }, { key := .string ⟨#[97, 98, 111, 117, 116]⟩, val := .int .i64 (-1), born := 2 }] : Array MapEntry) 3)) = .ok () (w.alloc (.map (#[{ key := .string ⟨#[104, 116, 116, 112]⟩, val := .int .i64 80, born := 0 }, { key := .string ⟨#[104, 116, 116, 112, 115]⟩, val := .int .i64 443, born := 1 }, { key := .string ⟨#[97, 98, 111, 117, 116]⟩, val := .int .i64 (-1), born := 2 }, { key := .string ⟨#[100, 97, 116, 97]⟩, val := .int .i64 (-1), born := 3 }] : Array MapEntry) 4)) :=
    run_put (P := Tryz.prog) w 99 9 3 _ _ (#[{ key := .string ⟨#[104, 116, 116, 112]⟩, val := .int .i64 80, born := 0 }, { key := .string ⟨#[104, 116, 116, 112, 115]⟩, val := .int .i64 443, born := 1 }, { key := .string ⟨#[97, 98, 111, 117, 116]⟩, val := .int .i64 (-1), born := 2 }] : Array MapEntry) 3 Tryz.underlying99 Tryz.underlying9 (by kernel_rfl)
  have p5 : (Instr.mapUpdate 99 (.map (some w.heap.size)) (.string ⟨#[98, 108, 111, 98]⟩) (.int .i64 (-1))).run Tryz.prog (w.alloc (.map (#[{ key := .string ⟨#[104, 116, 116, 112]⟩, val := .int .i64 80, born := 0 }, { key := .string ⟨#[104, 116, 116, 112, 115]⟩, val := .int .i64 443, born := 1 }, { key := .string ⟨#[97, 98, 111, 117, 116]⟩, val := .int .i64 (-1), born := 2 }, { key := .string ⟨#[100, 97, 116, 97]⟩, val := .int .i64 (-1), born := 3 }] : Array MapEntry) 4)) = .ok () (w.alloc (.map (#[{ key := .string ⟨#[104, 116, 116, 112]⟩, val := .int .i64 80, born := 0 }, { key := .string ⟨#[104, 116, 116, 112, 115]⟩, val := .int .i64 443, born := 1 }, { key := .string ⟨#[97, 98, 111, 117, 116]⟩, val := .int .i64 (-1), born := 2 }, { key := .string ⟨#[100, 97, 116, 97]⟩, val := .int .i64 (-1), born := 3 }, { key := .string ⟨#[98, 108, 111, 98]⟩, val := .int .i64 (-1), born := 4 }] : Array MapEntry) 5)) :=
    run_put (P := Tryz.prog) w 99 9 3 _ _ (#[{ key := .string ⟨#[104, 116, 116, 112]⟩, val := .int .i64 80, born := 0 }, { key := .string ⟨#[104, 116, 116, 112, 115]⟩, val := .int .i64 443, born := 1 }, { key := .string ⟨#[97, 98, 111, 117, 116]⟩, val := .int .i64 (-1), born := 2 }, { key := .string ⟨#[100, 97, 116, 97]⟩, val := .int .i64 (-1), born := 3 }] : Array MapEntry) 4 Tryz.underlying99 Tryz.underlying9 (by kernel_rfl)
  go_enter Tryz.func52, Tryz.ntmps52
  go_wp2
  go_ret
  exact ⟨rfl, rfl⟩

/-- The own port of a scheme (0: not known), and whether it is known. -/
def portOf (s : List UInt8) : Int := if s = Gl.http then 80 else if s = Gl.https then 443 else if s = Gl.about ∨ s = Gl.data ∨ s = Gl.blob then -1 else 0

theorem string_beq (a b : List UInt8) : ((⟨a.toArray⟩ : ByteArray) == ⟨b.toArray⟩) = (a == b) := by
  show (a.toArray == b.toArray) = (a == b)
  simp

theorem find_ports (s : List UInt8) : ∃ res, Instr.findNow .string (.string ⟨s.toArray⟩) portsMap.toList 0 = some res ∧ (res.map (·.2)).getD (.int .i64 0) = .int .i64 (portOf s) ∧ res.isSome = known s := by
  have hstep : ∀ (k : List UInt8) (v : Value) (b : Nat) (es : List MapEntry) (i : Nat), Instr.findNow .string (.string ⟨s.toArray⟩) ({ key := .string ⟨k.toArray⟩, val := v, born := b } :: es) i = if s = k then some (some (i, v)) else Instr.findNow .string (.string ⟨s.toArray⟩) es (i + 1) := by
    intro k v b es i
    conv => lhs; unfold Instr.findNow
    simp only [Instr.sameNow, string_beq]
    by_cases h : s = k
    · rw [if_pos h, beq_iff_eq.2 h]
    · rw [if_neg h, beq_eq_false_iff_ne.2 h]
  show ∃ res, Instr.findNow .string (.string ⟨s.toArray⟩) [{ key := .string ⟨Gl.http.toArray⟩, val := .int .i64 80, born := 0 }, { key := .string ⟨Gl.https.toArray⟩, val := .int .i64 443, born := 1 }, { key := .string ⟨Gl.about.toArray⟩, val := .int .i64 (-1), born := 2 }, { key := .string ⟨Gl.data.toArray⟩, val := .int .i64 (-1), born := 3 }, { key := .string ⟨Gl.blob.toArray⟩, val := .int .i64 (-1), born := 4 }] 0 = some res ∧ _
  simp only [hstep]
  have hnil : ∀ i, Instr.findNow .string (.string ⟨s.toArray⟩) [] i = some none := fun _ => rfl
  rw [hnil]
  by_cases h1 : s = Gl.http
  · exact ⟨_, if_pos h1, by subst h1; rfl, by subst h1; rfl⟩
  by_cases h2 : s = Gl.https
  · exact ⟨_, by rw [if_neg h1, if_pos h2], by subst h2; rfl, by subst h2; rfl⟩
  by_cases h3 : s = Gl.about
  · exact ⟨_, by rw [if_neg h1, if_neg h2, if_pos h3], by subst h3; rfl, by subst h3; rfl⟩
  by_cases h4 : s = Gl.data
  · exact ⟨_, by rw [if_neg h1, if_neg h2, if_neg h3, if_pos h4], by subst h4; rfl, by subst h4; rfl⟩
  by_cases h5 : s = Gl.blob
  · exact ⟨_, by rw [if_neg h1, if_neg h2, if_neg h3, if_neg h4, if_pos h5], by subst h5; rfl, by subst h5; rfl⟩
  · refine ⟨_, by rw [if_neg h1, if_neg h2, if_neg h3, if_neg h4, if_neg h5], ?_, ?_⟩
    · simp [portOf, h1, h2, h3, h4, h5]
    · simp [known, h1, h2, h3, h4, h5]

theorem look_ports (s : List UInt8) (W : World) (r : Nat) (h : W.heap[r]? = some (.map portsMap 5)) :
    (Instr.lookup 99 (.map (some r)) (.string ⟨s.toArray⟩) true).run Tryz.prog W = .ok (.tuple #[.int .i64 (portOf s), .bool (known s)]) W := by
  obtain ⟨res, h1, h2, h3⟩ := find_ports s
  rw [run_get (P := Tryz.prog) W 99 9 3 r _ _ _ (.int .i64 0) res Tryz.underlying99 Tryz.underlying9 (by kernel_rfl) h h1, h2, h3]

theorem urlp_ports_at (w : World) : Calls Tryz.prog 52 #[] w (fun e w' => (e = .returned (.map (some w.heap.size)) ∧ Below w.heap.size w w') ∧ w'.heap[w.heap.size]? = some (.map portsMap 5)) :=
  (urlp_ports w).mono fun _ _ ⟨he, hw⟩ => ⟨⟨he, hw ▸ Below.alloc (Below.refl _ _) (Nat.le_refl _) _⟩, hw ▸ heap_alloc_new w _⟩
end Go.Proofs.YtbafofldgkigmaaGreatDoor
