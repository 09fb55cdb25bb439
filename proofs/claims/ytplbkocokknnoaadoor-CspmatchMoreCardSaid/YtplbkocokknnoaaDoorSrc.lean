/- Source expressions: the functions of cspmatch that read them. -/
import Derived.Test.YtplbkocokknnoaaDoorEleven
import Derived.Test.YtplbkocokknnoaaDoorThree
import Derived.Laws.EntriesVeiled
namespace Go.Proofs.YtplbkocokknnoaaDoor
open Go.RowKit
theorem schLen_cons (f : Bool) (c : UInt8) (r : List UInt8) : Gl.schLen f (c :: r) = if Gl.isLetter c || (!f && (Gl.isDigit c || ([43, 45, 46] : List UInt8).contains c)) then Gl.schLen false r + 1 else 0 := rfl
theorem schLen_le (f : Bool) (s : List UInt8) : Gl.schLen f s ≤ s.length := by
  induction s generalizing f with
  | nil => exact Nat.le_refl _
  | cons c r ih =>
    rw [schLen_cons]
    split
    · have := ih false; simp; omega
    · simp
theorem ret_nat {w : World} {a b : Nat} (h : a = b) : Same w (.int .i64 (b : Int)) (.returned (.int .i64 (a : Int))) w := ⟨by rw [h], rfl⟩
theorem cutPrefix_yes (l p : List UInt8) (w : World) (h : p.isPrefixOf l = true) :
    Calls Tryd.prog 43 #[(Value.string ⟨(l).toArray⟩), (Value.string ⟨(p).toArray⟩)] w (Same w (.tuple #[(Value.string ⟨(l.drop p.length).toArray⟩), .bool true])) := by
  have := cutPrefix_any l p w; rw [h, if_pos rfl] at this; exact this
theorem cutPrefix_no (l p : List UInt8) (w : World) (h : p.isPrefixOf l = false) :
    Calls Tryd.prog 43 #[(Value.string ⟨(l).toArray⟩), (Value.string ⟨(p).toArray⟩)] w (Same w (.tuple #[(Value.string ⟨(l).toArray⟩), .bool false])) := by
  have := cutPrefix_any l p w; rw [h, if_neg (by simp)] at this; exact this
theorem ret_boolB {w w' : World} {a b : Bool} (hb : Below w.heap.size w w') (h : a = true ↔ b = true) : Ret w (.bool b) (.returned (.bool a)) w' := ⟨by rw [Bool.eq_iff_iff.2 h], hb⟩
set_option maxRecDepth 100000 in
set_option maxHeartbeats 1000000 in
theorem csp_label (s : List UInt8) (w : World) (hs : s.length ≤ 281474976710656) :
    Calls Tryd.prog 71 #[(Value.string ⟨(s).toArray⟩)] w (Ret w (.bool (Gl.isLabel s))) := by
  have hconv := fun (w : World) => Lib.run_convert_string_bytes (P := Tryd.prog) w 9 94 5 ⟨s.toArray⟩ Tryd.underlying9 Tryd.underlying94 Tryd.underlying5
  have hbuf := buf_new (w := w) (e := 5) s
  have hbel := below_bytes w 5 ⟨s.toArray⟩
  generalize hR : Gl.isLabel s = R
  replace hR := Lib.hid hR
  go_enter Tryd.func71, Tryd.ntmps71
  go_wp2
  generalize Lib.bytesWorld w 5 ⟨s.toArray⟩ = wb at *
  go_loop [4, 8] (fun _ i => ∃ k : Nat, k ≤ s.length ∧ i = .int .i64 k ∧ Hid (R = (decide (1 ≤ s.length ∧ s.length ≤ 63) && (s.drop k).all Gl.isSmall))) (fun _ i => s.length - (intOf i).toNat)
  case atStart => exact ⟨0, Nat.zero_le _, rfl, Lib.hid (by rw [← hR.out]; rfl)⟩
  case round =>
    obtain ⟨k, hk, rfl, hr⟩ := hrel
    by_cases hlt : k < s.length
    · have hc := hbuf.cell k hlt
      have hc1 := (s[k]).toNat_lt
      rw [drop_cons hlt, List.all_cons] at hr
      clear hbuf
      go_wp2
      all_goals first
        | (go_ret
           refine ⟨?_, by assumption⟩
           have hx : Gl.isSmall s[k] = false := by simp [Gl.isSmall]; simp at *; omega
           rw [hr.out, hx]; simp)
        | (go_round
           case rel =>
             refine ⟨k + 1, by omega, by go_num, Lib.hid ?_⟩
             have hx : Gl.isSmall s[k] = true := by simp [Gl.isSmall]; simp at *; omega
             rw [hr.out, hx, Bool.true_and]
           case measure => simp [intOf]; omega)
    · rw [List.drop_eq_nil_of_le (by omega)] at hr
      go_wp2
      all_goals
        go_ret
        refine ret_boolB (by assumption) ?_
        rw [hr.out, List.all_nil, Bool.and_true]
        simp only [decide_eq_true_eq, Bool.false_eq_true, false_iff]
        omega
set_option maxRecDepth 100000 in
theorem csp_bad (s : List UInt8) (g : Nat) (w : World) (hs : s.length ≤ 281474976710656) (hg : w.cell? ⟨g, 0, none⟩ = some (.func (.func 71) #[] #[])) :
    Calls Tryd.prog 72 #[(Value.string ⟨(s).toArray⟩), .pointer (some ⟨g, 0, none⟩)] w (Ret w (.bool (!Gl.isLabel s))) := by
  have hl := Lib.hid (csp_label s w hs)
  generalize Gl.isLabel s = R at *
  go_enter Tryd.func72, Tryd.ntmps72
  go_wp2_with (go_at_call 71; refine ( hl.out).mono ?_; rintro e w1 ⟨rfl, hb⟩; obtain ⟨hc, hfz⟩ := bcell hb; have hz := hb.size; (try simp at hz); (try have hz0 : w.heap.size < w1.heap.size := by omega); (try have hz1 : w.heap.size + 1 < w1.heap.size := by omega); (try have hz2 : w.heap.size + 2 < w1.heap.size := by omega); (try have hz3 : w.heap.size + 3 < w1.heap.size := by omega); (try have hcA := fun o => hc w.heap.size o (by first | omega | (simp; omega))); (try have hcB := fun o => hc (w.heap.size + 1) o (by first | omega | (simp; omega))); (try have hcGg := fun o => hc g o (by first | omega | (simp; omega))); (try have hfGg := fun o => hfz g o (by first | omega | (simp; omega))); (try have hzGg : g < w1.heap.size := by omega))
  go_ret
  exact ⟨rfl, by (repeat' first | (with_reducible exact Below.refl _ _) | (with_reducible refine Below.setCell ?_ (by first | omega | (simp; done) | (simp; omega)) _) | (with_reducible refine Below.alloc ?_ (by first | omega | (simp; done) | (simp; omega)) _) | refine below_drewN ?_ _ | refine Below.drew ?_ | (refine below_thru (by assumption) ?_ (by first | omega | (simp; done) | (simp; omega))) | exact Below.refl _ _)⟩
set_option maxRecDepth 100000 in
set_option maxHeartbeats 1000000 in
theorem index_bad (v : Value) (L : List (List UInt8)) (g : Nat) (w : World) (hv : Strs w w.heap.size v L) (hl : L.length ≤ 281474976710656) (hsh : ∀ s ∈ L, s.length ≤ 281474976710656) (hgl : g < w.heap.size) (hg : w.cell? ⟨g, 0, none⟩ = some (.func (.func 71) #[] #[])) :
    Calls Tryd.prog 88 #[v, .func (.func 72) #[] #[.pointer (some ⟨g, 0, none⟩)]] w (fun e w' => ∃ n : Int, (-1 ≤ n ∧ decide (0 ≤ n) = L.any (fun s => !Gl.isLabel s)) ∧ e = .returned (.int .i64 n) ∧ Below w.heap.size w w') := by
  generalize hR : L.any (fun s => !Gl.isLabel s) = R
  replace hR := Lib.hid hR
  replace hsh := Lib.hid hsh
  have hg0 := Lib.hid hg
  clear hg
  obtain ⟨b, o, c, h1, h2, hB, hv1, hv0, hcell⟩ := hv.at_
  have hvx : ∃ A, v = .slice A L.length c ∧ (0 < L.length → A = some ⟨b, o, none⟩) := by
    by_cases h0 : 0 < L.length
    · exact ⟨_, hv1 h0, fun _ => rfl⟩
    · obtain ⟨A, hA⟩ := hv0 (by omega)
      exact ⟨A, by rw [hA, show L.length = 0 by omega], fun h => absurd h h0⟩
  obtain ⟨A, rfl, hA⟩ := hvx
  clear hv1 hv0 hv
  replace hcell := Lib.hid hcell
  go_enter Tryd.func88, Tryd.ntmps88
  go_wp2
  go_loopw [4, 8] (fun _ i wr => ∃ k : Nat, k ≤ L.length ∧ i = .int .i64 k ∧ Below w.heap.size w wr ∧ Hid (R = (L.drop k).any (fun s => !Gl.isLabel s))) (fun _ i _ => L.length - (intOf i).toNat)
  case atStart => exact ⟨0, Nat.zero_le _, rfl, Below.refl _ _, Lib.hid (by rw [← hR.out]; rfl)⟩
  case round =>
    obtain ⟨k, hk, rfl, hw0, hr⟩ := hrel
    by_cases hlt : k < L.length
    · obtain rfl := hA (by omega)
      rw [drop_consL hlt, List.any_cons] at hr
      have hbl := hB (by omega)
      have hc := (hw0.cell (p := ⟨b, o + k, none⟩) hbl).trans (hcell.out k hlt)
      have hbad := csp_bad (L[k]) g wr (hsh.out _ (List.getElem_mem hlt)) ((hw0.cell (p := ⟨g, 0, none⟩) hgl).trans hg0.out)
      have hsz := hw0.size
      generalize L[k] = x at *
      cases hx : Gl.isLabel x
      all_goals
        rw [hx] at hbad hr
        replace hbad := Lib.hid hbad
        replace hx := Lib.hid hx
        go_wp2_with (go_at_call 72; refine ( hbad.out).mono ?_; rintro e w1 ⟨rfl, hb⟩; obtain ⟨hc, hfz⟩ := bcell hb; have hz := hb.size; (try simp at hz); (try have hz0 : w.heap.size < w1.heap.size := by omega); (try have hz1 : w.heap.size + 1 < w1.heap.size := by omega); (try have hz2 : w.heap.size + 2 < w1.heap.size := by omega); (try have hz3 : w.heap.size + 3 < w1.heap.size := by omega); (try have hcA := fun o => hc w.heap.size o (by first | omega | (simp; omega))); (try have hcB := fun o => hc (w.heap.size + 1) o (by first | omega | (simp; omega))); (try have hcGg := fun o => hc g o (by first | omega | (simp; omega))); (try have hfGg := fun o => hfz g o (by first | omega | (simp; omega))); (try have hzGg : g < w1.heap.size := by omega))
      · go_ret
        exact ⟨(k : Int), ⟨by omega, by rw [hr.out]; simp⟩, rfl, hw0.trans (hb.mono hsz)⟩
      · go_roundw
        case rel => exact ⟨k + 1, by omega, by go_num, hw0.trans (hb.mono hsz), Lib.hid (by rw [hr.out]; rfl)⟩
        case measure => simp [intOf]; omega
    · rw [List.drop_eq_nil_of_le (by omega)] at hr
      go_wp2
      go_ret
      exact ⟨-1, ⟨by omega, by rw [hr.out]; rfl⟩, rfl, hw0⟩
set_option maxRecDepth 100000 in
theorem contains_bad (v : Value) (L : List (List UInt8)) (g : Nat) (w : World) (hv : Strs w w.heap.size v L) (hl : L.length ≤ 281474976710656) (hsh : ∀ s ∈ L, s.length ≤ 281474976710656) (hgl : g < w.heap.size) (hg : w.cell? ⟨g, 0, none⟩ = some (.func (.func 71) #[] #[])) :
    Calls Tryd.prog 73 #[v, .func (.func 72) #[] #[.pointer (some ⟨g, 0, none⟩)]] w (Ret w (.bool (L.any (fun s => !Gl.isLabel s)))) := by
  have hi := Lib.hid (index_bad v L g w hv hl hsh hgl hg)
  generalize L.any (fun s => !Gl.isLabel s) = R at *
  obtain ⟨A, c, rfl, h1, h2, h3⟩ := hv
  clear h3 hg hsh
  go_enter Tryd.func73, Tryd.ntmps73
  go_wp2_with (go_at_call 88; refine hi.out.mono ?_; rintro e w1 ⟨n, ⟨hn, hd⟩, rfl, hb⟩)
  go_ret
  exact ⟨by rw [← hd]; rfl, hb⟩
set_option maxRecDepth 100000 in
set_option maxHeartbeats 1000000 in
theorem csp_domain (s : List UInt8) (w : World) (hs : s.length ≤ 1099511627774) (hp : s ≠ [42]) (t : List UInt8) (ht : (([42, 46] : List UInt8).isPrefixOf s = false ∧ t = s) ∨ (([42, 46] : List UInt8).isPrefixOf s = true ∧ t = s.drop 2)) :
    Calls Tryd.prog 51 #[(Value.string ⟨(s).toArray⟩)] w (Ret w (.bool (decide (t.length ≤ 253) && (Gl.split 46 t).all Gl.isLabel))) := by
  have hp1 : (s == [42]) = false := by simpa using hp
  have hcp : Calls Tryd.prog 43 #[(Value.string ⟨(s).toArray⟩), (Value.string ⟨([42, 46]).toArray⟩)] w (Same w (.tuple #[(Value.string ⟨(t).toArray⟩), .bool (([42, 46] : List UInt8).isPrefixOf s)])) := by
    rcases ht with ⟨h, rfl⟩ | ⟨h, rfl⟩
    · rw [h]; exact cutPrefix_no _ _ _ h
    · rw [h]; exact cutPrefix_yes _ _ _ h
  have htl : t.length ≤ 1099511627774 := by rcases ht with ⟨_, rfl⟩ | ⟨_, rfl⟩; exact hs; simp; omega
  have hsp : ∀ W, Calls Tryd.prog 68 #[(Value.string ⟨(t).toArray⟩), .int .u8 46] W (RetStrs W (Gl.split 46 t)) := fun W => octet_split t 46 W htl
  have hmem := split_mem 46 t
  have hlen := split_len 46 t
  have hpos := split_pos 46 t
  generalize Gl.split 46 t = L at *
  have hcn := fun (v : Value) (g : Nat) (W : World) (hv : Strs W W.heap.size v L) (hgl : g < W.heap.size) (hg : W.cell? ⟨g, 0, none⟩ = some (.func (.func 71) #[] #[])) => contains_bad v L g W hv (by omega) (fun x hx => by have := hmem x hx; omega) hgl hg
  rw [← List.not_all_eq_any_not] at hcn
  generalize L.all Gl.isLabel = R at *
  replace hcp := Lib.hid hcp
  replace hsp := Lib.hid hsp
  replace hcn := Lib.hid hcn
  clear hmem hp
  replace hlen := Lib.hid hlen
  have hst : s = t ∧ ([42, 46] : List UInt8).isPrefixOf s = false ∨ ([42, 46] : List UInt8).isPrefixOf s = true := by rcases ht with ⟨h, rfl⟩ | ⟨h, _⟩ <;> simp [h]
  clear ht
  rcases hst with ⟨hx, hb⟩ | hb
  · subst hx
    rw [hb] at hcp
    replace hb := Lib.hid hb
    by_cases htn : s.length < 254
    · go_enter Tryd.func51, Tryd.ntmps51
      go_wp2_with (first | (go_at_call 43; refine ( hcp.out).mono ?_; rintro e w1 ⟨rfl, rfl⟩) | (go_at_call 68; refine ( hsp.out _).mono ?_; rintro e w1 ⟨v, rfl, hst, hb⟩; obtain ⟨hc, hfz⟩ := bcell hb; have hz := hb.size; (try simp at hz); (try have hz0 : w.heap.size < w1.heap.size := by omega); (try have hz1 : w.heap.size + 1 < w1.heap.size := by omega); (try have hz2 : w.heap.size + 2 < w1.heap.size := by omega); (try have hz3 : w.heap.size + 3 < w1.heap.size := by omega); obtain ⟨lb, lc, hlc, hlm, hlB, hlv, _, hlcell⟩ := hst.at_; obtain rfl := hlv ( hpos); obtain ⟨hlb, hlB⟩ := hlB ( hpos)) | (go_at_call 73; refine ( hcn.out _ _ _ (by exact hst.strs) (by omega) (by go_simp)).mono ?_; rintro e w1 ⟨rfl, hb⟩; obtain ⟨hc, hfz⟩ := bcell hb; have hz := hb.size; (try simp at hz); (try have hz0 : w.heap.size < w1.heap.size := by omega); (try have hz1 : w.heap.size + 1 < w1.heap.size := by omega); (try have hz2 : w.heap.size + 2 < w1.heap.size := by omega); (try have hz3 : w.heap.size + 3 < w1.heap.size := by omega); (try have hcA := fun o => hc w.heap.size o (by first | omega | (simp; omega))); (try have hcB := fun o => hc (w.heap.size + 1) o (by first | omega | (simp; omega))); (try have hcGg := fun o => hc g o (by first | omega | (simp; omega))); (try have hfGg := fun o => hfz g o (by first | omega | (simp; omega))); (try have hzGg : g < w1.heap.size := by omega)))
      go_ret
      exact ret_boolB (by (repeat' first | (with_reducible exact Below.refl _ _) | (with_reducible refine Below.setCell ?_ (by first | omega | (simp; done) | (simp; omega)) _) | (with_reducible refine Below.alloc ?_ (by first | omega | (simp; done) | (simp; omega)) _) | refine below_drewN ?_ _ | refine Below.drew ?_ | (refine below_thru (by assumption) ?_ (by first | omega | (simp; done) | (simp; omega))) | exact Below.refl _ _)) (by simp; omega)
    · go_enter Tryd.func51, Tryd.ntmps51
      go_wp2_with (go_at_call 43; refine ( hcp.out).mono ?_; rintro e w1 ⟨rfl, rfl⟩)
      go_ret
      exact ret_boolB (by (repeat' first | (with_reducible exact Below.refl _ _) | (with_reducible refine Below.setCell ?_ (by first | omega | (simp; done) | (simp; omega)) _) | (with_reducible refine Below.alloc ?_ (by first | omega | (simp; done) | (simp; omega)) _) | refine below_drewN ?_ _ | refine Below.drew ?_ | (refine below_thru (by assumption) ?_ (by first | omega | (simp; done) | (simp; omega))) | exact Below.refl _ _)) (by simp; omega)
  · rw [hb] at hcp
    replace hb := Lib.hid hb
    by_cases htn : t.length < 254
    · go_enter Tryd.func51, Tryd.ntmps51
      go_wp2_with (first | (go_at_call 43; refine ( hcp.out).mono ?_; rintro e w1 ⟨rfl, rfl⟩) | (go_at_call 68; refine ( hsp.out _).mono ?_; rintro e w1 ⟨v, rfl, hst, hb⟩; obtain ⟨hc, hfz⟩ := bcell hb; have hz := hb.size; (try simp at hz); (try have hz0 : w.heap.size < w1.heap.size := by omega); (try have hz1 : w.heap.size + 1 < w1.heap.size := by omega); (try have hz2 : w.heap.size + 2 < w1.heap.size := by omega); (try have hz3 : w.heap.size + 3 < w1.heap.size := by omega); obtain ⟨lb, lc, hlc, hlm, hlB, hlv, _, hlcell⟩ := hst.at_; obtain rfl := hlv ( hpos); obtain ⟨hlb, hlB⟩ := hlB ( hpos)) | (go_at_call 73; refine ( hcn.out _ _ _ (by exact hst.strs) (by omega) (by go_simp)).mono ?_; rintro e w1 ⟨rfl, hb⟩; obtain ⟨hc, hfz⟩ := bcell hb; have hz := hb.size; (try simp at hz); (try have hz0 : w.heap.size < w1.heap.size := by omega); (try have hz1 : w.heap.size + 1 < w1.heap.size := by omega); (try have hz2 : w.heap.size + 2 < w1.heap.size := by omega); (try have hz3 : w.heap.size + 3 < w1.heap.size := by omega); (try have hcA := fun o => hc w.heap.size o (by first | omega | (simp; omega))); (try have hcB := fun o => hc (w.heap.size + 1) o (by first | omega | (simp; omega))); (try have hcGg := fun o => hc g o (by first | omega | (simp; omega))); (try have hfGg := fun o => hfz g o (by first | omega | (simp; omega))); (try have hzGg : g < w1.heap.size := by omega)))
      go_ret
      exact ret_boolB (by (repeat' first | (with_reducible exact Below.refl _ _) | (with_reducible refine Below.setCell ?_ (by first | omega | (simp; done) | (simp; omega)) _) | (with_reducible refine Below.alloc ?_ (by first | omega | (simp; done) | (simp; omega)) _) | refine below_drewN ?_ _ | refine Below.drew ?_ | (refine below_thru (by assumption) ?_ (by first | omega | (simp; done) | (simp; omega))) | exact Below.refl _ _)) (by simp; omega)
    · go_enter Tryd.func51, Tryd.ntmps51
      go_wp2_with (go_at_call 43; refine ( hcp.out).mono ?_; rintro e w1 ⟨rfl, rfl⟩)
      go_ret
      exact ret_boolB (by (repeat' first | (with_reducible exact Below.refl _ _) | (with_reducible refine Below.setCell ?_ (by first | omega | (simp; done) | (simp; omega)) _) | (with_reducible refine Below.alloc ?_ (by first | omega | (simp; done) | (simp; omega)) _) | refine below_drewN ?_ _ | refine Below.drew ?_ | (refine below_thru (by assumption) ?_ (by first | omega | (simp; done) | (simp; omega))) | exact Below.refl _ _)) (by simp; omega)
set_option maxRecDepth 100000 in
theorem csp_pattern (s : List UInt8) (w : World) (hs : s.length ≤ 1099511627774) : Calls Tryd.prog 51 #[(Value.string ⟨(s).toArray⟩)] w (Ret w (.bool (Gl.pattern s))) := by
  by_cases hp : s = [42]
  · subst hp
    go_enter Tryd.func51, Tryd.ntmps51
    go_wp2
    go_ret
    exact ⟨rfl, by (repeat' first | (with_reducible exact Below.refl _ _) | (with_reducible refine Below.setCell ?_ (by first | omega | (simp; done) | (simp; omega)) _) | (with_reducible refine Below.alloc ?_ (by first | omega | (simp; done) | (simp; omega)) _) | refine below_drewN ?_ _ | refine Below.drew ?_ | (refine below_thru (by assumption) ?_ (by first | omega | (simp; done) | (simp; omega))) | exact Below.refl _ _)⟩
  · cases hb : ([42, 46] : List UInt8).isPrefixOf s with
    | false =>
      have := csp_domain s w hs hp s (Or.inl ⟨hb, rfl⟩)
      rw [show Gl.pattern s = (decide (s.length ≤ 253) && (Gl.split 46 s).all Gl.isLabel) by unfold Gl.pattern Gl.domain; rw [hb]; simp [hp]]
      exact this
    | true =>
      have := csp_domain s w hs hp (s.drop 2) (Or.inr ⟨hb, rfl⟩)
      rw [show Gl.pattern s = (decide ((s.drop 2).length ≤ 253) && (Gl.split 46 (s.drop 2)).all Gl.isLabel) by unfold Gl.pattern Gl.domain; rw [hb]; simp [hp]]
      exact this
set_option maxHeartbeats 2000000 in
theorem csp_scheme (s : List UInt8) (w : World) (hs : s.length ≤ 281474976710656) (hg : noGreat s) :
    Calls Tryd.prog 50 #[(Value.string ⟨(s).toArray⟩)] w (Same w (.int .i64 (Gl.schLen true s : Nat))) := by
  generalize hR : Gl.schLen true s = R
  replace hR := Lib.hid hR
  replace hg := Lib.hid hg
  go_enter Tryd.func50, Tryd.ntmps50
  go_wp2
  go_loop [3, 4, 5] (fun i _ _ => ∃ k : Nat, k ≤ s.length ∧ i = .int .i64 k ∧ Hid (R = k + Gl.schLen (k == 0) (s.drop k))) (fun i _ _ => s.length - (intOf i).toNat)
  case atStart => exact ⟨0, Nat.zero_le _, rfl, Lib.hid (by rw [← hR.out]; simp)⟩
  case round =>
    obtain ⟨k, hk, rfl, hr⟩ := hrel
    by_cases hlt : k < s.length
    · have hgk := hg.out s[k] (List.getElem_mem hlt)
      rw [drop_cons hlt, schLen_cons] at hr
      have hk0 : ((k : Int) == 0) = (k == 0) := by rw [Bool.eq_iff_iff]; simp
      have hkp : Hid ((k + 1 == 0) = false) := Lib.hid (by simp)
      have hc256 := (s[k]).toNat_lt
      cases hz : (k == 0) <;> rw [hz] at hk0 hr <;> replace hz := Lib.hid hz
      all_goals
        by_cases hl : 97 ≤ (s[k].toNat : Int) ∧ (s[k].toNat : Int) ≤ 122
        · obtain ⟨hl1, hl2⟩ := hl
          have hlt' : Gl.isLetter s[k] = true := by simp [Gl.isLetter]; omega
          rw [hlt'] at hr
          clear hlt' hgk
          go_wp2
          go_round
          case rel => exact ⟨k + 1, by omega, by go_num, Lib.hid (by rw [hr.out, hkp.out, if_pos (by rfl)]; omega)⟩
          case measure => simp [intOf]; omega
        · have hlf : Gl.isLetter s[k] = false := by simp [Gl.isLetter]; omega
          rw [hlf] at hr
          rcases (show (48 ≤ (s[k].toNat : Int) ∧ (s[k].toNat : Int) ≤ 57) ∨ (s[k].toNat : Int) < 48 ∨ (57 < (s[k].toNat : Int) ∧ (s[k].toNat : Int) < 97) ∨ 122 < (s[k].toNat : Int) from by omega) with hd | hd | hd | hd
          all_goals
            clear hl hlf hgk
            first
              | (obtain ⟨hd1, hd2⟩ := hd
                 have hdig : Hid (Gl.isDigit s[k] = true) := Lib.hid (by simp [Gl.isDigit]; omega))
              | (obtain ⟨hd1, hd2⟩ := hd
                 have hdig : Hid (Gl.isDigit s[k] = false) := Lib.hid (by simp [Gl.isDigit]; omega))
              | (have hdig : Hid (Gl.isDigit s[k] = false) := Lib.hid (by simp [Gl.isDigit]; omega))
            cases ho : ([43, 45, 46] : List UInt8).contains s[k]
            all_goals
              rw [ho] at hr
              replace ho := Lib.hid ho
              go_wp2_with (first
                | (go_at_call 42; refine (indexByte_no [43, 45, 46] s[k] _ ho.out).mono ?_; rintro e w' ⟨rfl, rfl⟩)
                | (go_at_call 42; refine (indexByte_yes [43, 45, 46] s[k] _ ho.out).mono ?_; rintro e w' ⟨n, rfl, rfl⟩))
              all_goals first
                | (exfalso; clear hr hR hg hkp hz ho hdig; simp at *; omega)
                | (go_round
                   case rel => exact ⟨k + 1, by omega, by go_num, Lib.hid (by rw [hr.out, hkp.out, hdig.out, if_pos (by rfl)]; omega)⟩
                   case measure => simp [intOf]; omega)
                | (go_ret
                   exact ret_nat (by rw [hr.out, hdig.out]; simp))
    · rw [List.drop_eq_nil_of_le (by omega)] at hr
      go_wp2
      go_ret
      exact ret_nat (by rw [hr.out]; rfl)
end Go.Proofs.YtplbkocokknnoaaDoor
