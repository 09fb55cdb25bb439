
/- glacisref02.Parse: the host that a text is. -/
import Derived.Test.YthmgcnaoionmoaaDoorRef3b
import Derived.Test.YthmgcnaoionmoaaDoorSplit
import Derived.Test.YthmgcnaoionmoaaDoorLower
import Derived.Deep.DeepCutAuto
import Derived.Deep.CutBlock
namespace Go.Proofs.YthmgcnaoionmoaaDoor
open Go.RowKit

theorem split_pos (c : UInt8) (s : List UInt8) : 0 < (Gl.split c s).length := by
  have : ∀ (s p : List UInt8), 0 < (Gl.splitGo c p s).length := by
    intro s
    induction s with
    | nil => intro p; simp [Gl.splitGo]
    | cons x r ih => intro p; unfold Gl.splitGo; split <;> simp [ih]
  exact this s []
theorem split_len (c : UInt8) (s : List UInt8) : (Gl.split c s).length ≤ s.length + 1 := by
  have : ∀ (s p : List UInt8), (Gl.splitGo c p s).length ≤ s.length + 1 := by
    intro s
    induction s with
    | nil => intro p; simp [Gl.splitGo]
    | cons x r ih =>
      intro p; unfold Gl.splitGo; split
      · have := ih []; simp; omega
      · have := ih (p ++ [x]); simp; omega
  exact this s []
theorem split_mem (c : UInt8) (s : List UInt8) : ∀ x ∈ Gl.split c s, x.length ≤ s.length := by
  have : ∀ (s p : List UInt8), ∀ x ∈ Gl.splitGo c p s, x.length ≤ p.length + s.length := by
    intro s
    induction s with
    | nil => intro p x hx; simp [Gl.splitGo] at hx; subst hx; simp
    | cons y r ih =>
      intro p x hx; unfold Gl.splitGo at hx; split at hx
      · rcases List.mem_cons.1 hx with rfl | hx
        · omega
        · have := ih [] x hx; simp at this ⊢; omega
      · have := ih (p ++ [y]) x hx; simp at this ⊢; omega
  intro x hx
  simpa using this s [] x hx
theorem ref2_label_at (s : List UInt8) (w : World) (hs : s.length ≤ 281474976710656) {b : Bool} (h : Gl.isLabel s = b) :
    Calls Tryd.prog 103 #[.string ⟨s.toArray⟩] w (Same w (.bool b)) := h ▸ ref2_label s w hs
theorem ref2_digits_at (s : List UInt8) (w : World) (hs : s.length ≤ 281474976710656) {b : Bool} (h : s.all Gl.isDigit = b) :
    Calls Tryd.prog 104 #[.string ⟨s.toArray⟩] w (Same w (.bool b)) := h ▸ ref2_digits s w hs
theorem ref1_number_none (s : List UInt8) (most : Int) (w : World) (hs : s.length ≤ 281474976710656) (h0 : 0 ≤ most) (h1 : most ≤ 4294967296) (h : Gl.number s most = none) :
    Calls Tryd.prog 83 #[.string ⟨s.toArray⟩, .int .i64 most] w (Same w (.tuple #[.int .i64 0, .bool false])) := by
  have := ref1_number s most w hs h0 h1; rw [h] at this; exact this
theorem ref1_number_some (s : List UInt8) (most n : Int) (w : World) (hs : s.length ≤ 281474976710656) (h0 : 0 ≤ most) (h1 : most ≤ 4294967296) (h : Gl.number s most = some n) :
    Calls Tryd.prog 83 #[.string ⟨s.toArray⟩, .int .i64 most] w (Same w (.tuple #[.int .i64 n, .bool true])) := by
  have := ref1_number s most w hs h0 h1; rw [h] at this; exact this
theorem numGo_range {most : Int} : ∀ {s : List UInt8} {m n : Int}, 0 ≤ m → m ≤ most → Gl.numGo most m s = some n → 0 ≤ n ∧ n ≤ most := by
  intro s
  induction s with
  | nil => intro m n h0 h1 h; simp [Gl.numGo] at h; omega
  | cons c r ih =>
    intro m n h0 h1 h
    unfold Gl.numGo at h
    split at h
    · cases h
    · split at h
      · cases h
      · exact ih (by omega) (by omega) h
theorem number_range {s : List UInt8} {most n : Int} (h0 : 0 ≤ most) (h : Gl.number s most = some n) : 0 ≤ n ∧ n ≤ most := by
  unfold Gl.number at h
  split at h
  · cases h
  · exact numGo_range (Int.le_refl _) h0 h
theorem drop_consL {L : List (List UInt8)} {k : Nat} (h : k < L.length) : L.drop k = L[k] :: L.drop (k + 1) := List.drop_eq_getElem_cons h
theorem lower_length (s : List UInt8) : (Gl.lower s).length = s.length := by simp [Gl.lower]

set_option maxHeartbeats 2000000 in
set_option maxRecDepth 100000 in
theorem ref2_parse (s0 : List UInt8) (w : World) (hs0 : s0.length ≤ 281474976710000) :
    Calls Tryd.prog 82 #[(Value.string ⟨(s0).toArray⟩)] w (Ret w (.tuple #[(Value.agg #[(Value.string ⟨(((Gl.hostParse s0).1).name).toArray⟩), (Value.bool ((Gl.hostParse s0).1).v4), (Value.int .u32 (((Gl.hostParse s0).1).addr : Int))]), .int .i64 (Gl.hostParse s0).2])) := by
  have hRR : Gl.hostParse s0 = Gl.hostOf (Gl.lower s0) := rfl
  have hl := lower_length s0
  generalize hR : Gl.hostParse s0 = R
  rw [hR] at hRR
  clear hR
  generalize hS : Gl.lower s0 = s at *
  replace hS := Lib.hid hS
  replace hRR := Lib.hid hRR
  have hs : s.length ≤ 281474976710000 := by omega
  clear hl
  replace hs0 : s0.length ≤ 281474976710656 := by omega
  by_cases h1 : s.length < 1 ∨ 253 < s.length
  · have hf : Hid (R = ({}, 20)) := Lib.hid (by rw [hRR.out, Gl.hostOf, if_pos h1])
    rcases h1 with h1 | h1
    all_goals
      go_enter Tryd.func82, Tryd.ntmps82
      go_wp2_with (first | (go_at_call 55; refine ( hS.out ▸ ref1_lower s0 _ hs0).mono ?_; rintro e w1 ⟨rfl, hb⟩; obtain ⟨hc, hfz⟩ := bcell hb; have hz := hb.size; (try simp at hz); (try have hz0 : w.heap.size < w1.heap.size := by omega); (try have hz1 : w.heap.size + 1 < w1.heap.size := by omega); (try have hz2 : w.heap.size + 2 < w1.heap.size := by omega); (try have hz3 : w.heap.size + 3 < w1.heap.size := by omega); (try have hcA := fun o => hc w.heap.size o (by first | omega | (simp; omega))); (try have hcB := fun o => hc (w.heap.size + 1) o (by first | omega | (simp; omega))); (try have hcGg := fun o => hc g o (by first | omega | (simp; omega))); (try have hfGg := fun o => hfz g o (by first | omega | (simp; omega))); (try have hzGg : g < w1.heap.size := by omega); (try have hcGgA := fun o => hc gA o (by first | omega | (simp; omega))); (try have hfGgA := fun o => hfz gA o (by first | omega | (simp; omega))); (try have hzGgA : gA < w1.heap.size := by omega); (try have hcGgB := fun o => hc gB o (by first | omega | (simp; omega))); (try have hfGgB := fun o => hfz gB o (by first | omega | (simp; omega))); (try have hzGgB : gB < w1.heap.size := by omega); (try have hcGgV := fun o => hc gV o (by first | omega | (simp; omega))); (try have hfGgV := fun o => hfz gV o (by first | omega | (simp; omega))); (try have hzGgV : gV < w1.heap.size := by omega)))
      refine bodyPost_ret (v := .tuple #[(Value.agg #[(Value.string ⟨#[]⟩), (Value.bool false), (Value.int .u32 0)]), .int .i64 20]) (by simp only [results, Tryd.results82]; go_simp) rfl ⟨by rw [hf.out] <;> rfl, ?_⟩
      (repeat' first | (with_reducible exact Below.refl _ _) | (with_reducible refine Below.setCell ?_ (by first | omega | (simp; done) | (simp; omega)) _) | (with_reducible refine Below.alloc ?_ (by first | omega | (simp; done) | (simp; omega)) _) | refine below_drewN ?_ _ | refine Below.drew ?_ | (refine below_thru (by assumption) ?_ (by first | omega | (simp; done) | (simp; omega))) | exact Below.refl _ _)
  · have hl1 : 1 ≤ s.length := by omega
    have hl2 : s.length ≤ 253 := by omega
    replace hRR : Hid (R = Gl.host1 s (Gl.split 46 s)) := Lib.hid (hRR.out.trans (by rw [Gl.hostOf, if_neg h1]))
    clear h1
    have hpos := split_pos 46 s
    have hlen := split_len 46 s
    generalize hL : Gl.split 46 s = L at *
    replace hL := Lib.hid hL
    go_enter Tryd.func82, Tryd.ntmps82
    go_wp2_with (first | (go_at_call 55; refine ( hS.out ▸ ref1_lower s0 _ hs0).mono ?_; rintro e w1 ⟨rfl, hb⟩; obtain ⟨hc, hfz⟩ := bcell hb; have hz := hb.size; (try simp at hz); (try have hz0 : w.heap.size < w1.heap.size := by omega); (try have hz1 : w.heap.size + 1 < w1.heap.size := by omega); (try have hz2 : w.heap.size + 2 < w1.heap.size := by omega); (try have hz3 : w.heap.size + 3 < w1.heap.size := by omega); (try have hcA := fun o => hc w.heap.size o (by first | omega | (simp; omega))); (try have hcB := fun o => hc (w.heap.size + 1) o (by first | omega | (simp; omega))); (try have hcGg := fun o => hc g o (by first | omega | (simp; omega))); (try have hfGg := fun o => hfz g o (by first | omega | (simp; omega))); (try have hzGg : g < w1.heap.size := by omega); (try have hcGgA := fun o => hc gA o (by first | omega | (simp; omega))); (try have hfGgA := fun o => hfz gA o (by first | omega | (simp; omega))); (try have hzGgA : gA < w1.heap.size := by omega); (try have hcGgB := fun o => hc gB o (by first | omega | (simp; omega))); (try have hfGgB := fun o => hfz gB o (by first | omega | (simp; omega))); (try have hzGgB : gB < w1.heap.size := by omega); (try have hcGgV := fun o => hc gV o (by first | omega | (simp; omega))); (try have hfGgV := fun o => hfz gV o (by first | omega | (simp; omega))); (try have hzGgV : gV < w1.heap.size := by omega)) | (go_at_call 91; refine ( hL.out ▸ ref1_split s 46 _ (by omega)).mono ?_; rintro e w1 ⟨v, rfl, hst, hb⟩; obtain ⟨hc, hfz⟩ := bcell hb; have hz := hb.size; (try simp at hz); (try have hz0 : w.heap.size < w1.heap.size := by omega); (try have hz1 : w.heap.size + 1 < w1.heap.size := by omega); (try have hz2 : w.heap.size + 2 < w1.heap.size := by omega); (try have hz3 : w.heap.size + 3 < w1.heap.size := by omega); obtain ⟨lb, lc, hlc, hlm, hlB, hlv, _, hlcell⟩ := hst.at_; obtain rfl := hlv ( hpos); obtain ⟨hlb, hlB⟩ := hlB ( hpos)))
    have hmem : ∀ k, (h : k < L.length) → (L[k]).length ≤ 281474976710656 := fun k h => by
      have := split_mem 46 s L[k] (by rw [hL.out]; exact List.getElem_mem h); omega
    replace hmem := Lib.hid hmem
    replace hlcell := Lib.hid hlcell
    clear hst hlv
    go_loop [5, 6] (fun i _ => ∃ k : Nat, k ≤ L.length ∧ i = .int .i64 k ∧ Hid ((L.drop k).all Gl.isLabel = L.all Gl.isLabel)) (fun i _ => L.length - (intOf i).toNat)
    case atStart => exact ⟨0, Nat.zero_le _, rfl, Lib.hid rfl⟩
    case round =>
      obtain ⟨k, hk, rfl, hr⟩ := hrel
      by_cases hlt : k < L.length
      · rw [drop_consL hlt] at hr
        have hck := hlcell.out k hlt
        have hmk := hmem.out k hlt
        cases hb1 : Gl.isLabel L[k] with
        | true =>
          have hf : Hid ((L.drop (k + 1)).all Gl.isLabel = L.all Gl.isLabel) := Lib.hid (by rw [← hr.out, List.all_cons, hb1, Bool.true_and])
          replace hb1 := Lib.hid hb1
          go_wp2_with (go_at_call 103; refine ( ref2_label_at _ _ hmk hb1.out).mono ?_; rintro e w1 ⟨rfl, rfl⟩)
          go_round
          case rel => exact ⟨k + 1, by omega, by go_num, hf⟩
          case measure => simp [intOf]; omega
        | false =>
          have hf : Hid (R = ({}, 20)) := Lib.hid (by rw [hRR.out, Gl.host1, ← hr.out, List.all_cons, hb1]; rfl)
          replace hb1 := Lib.hid hb1
          go_wp2_with (go_at_call 103; refine ( ref2_label_at _ _ hmk hb1.out).mono ?_; rintro e w1 ⟨rfl, rfl⟩)
          refine bodyPost_ret (v := .tuple #[(Value.agg #[(Value.string ⟨#[]⟩), (Value.bool false), (Value.int .u32 0)]), .int .i64 20]) (by simp only [results, Tryd.results82]; go_simp) rfl ⟨by rw [hf.out] <;> rfl, ?_⟩
          (repeat' first | (with_reducible exact Below.refl _ _) | (with_reducible refine Below.setCell ?_ (by first | omega | (simp; done) | (simp; omega)) _) | (with_reducible refine Below.alloc ?_ (by first | omega | (simp; done) | (simp; omega)) _) | refine below_drewN ?_ _ | refine Below.drew ?_ | (refine below_thru (by assumption) ?_ (by first | omega | (simp; done) | (simp; omega))) | exact Below.refl _ _)
      · rw [List.drop_eq_nil_of_le (by omega)] at hr
        replace hRR : Hid (R = Gl.host2 s L) := Lib.hid (hRR.out.trans (by rw [Gl.host1, ← hr.out]; rfl))
        clear hr
        have hlast := hlcell.out (L.length - 1) (by omega)
        have hml := hmem.out (L.length - 1) (by omega)
        have hgl : L.getLast?.getD [] = L[L.length - 1] := by
          rw [List.getLast?_eq_getElem?, List.getElem?_eq_getElem (by omega)]; rfl
        cases hb1 : (L[L.length - 1]).all Gl.isDigit with
        | false =>
          have hf : Hid (R = ({ name := s }, 0)) := Lib.hid (by rw [hRR.out, Gl.host2, hgl, hb1]; rfl)
          replace hb1 := Lib.hid hb1
          clear hgl
          go_wp2_with (go_at_call 104; refine ( ref2_digits_at _ _ hml hb1.out).mono ?_; rintro e w1 ⟨rfl, rfl⟩)
          refine bodyPost_ret (v := .tuple #[(Value.agg #[(Value.string ⟨(s).toArray⟩), (Value.bool false), (Value.int .u32 0)]), .int .i64 0]) (by simp only [results, Tryd.results82]; go_simp) rfl ⟨by rw [hf.out] <;> rfl, ?_⟩
          (repeat' first | (with_reducible exact Below.refl _ _) | (with_reducible refine Below.setCell ?_ (by first | omega | (simp; done) | (simp; omega)) _) | (with_reducible refine Below.alloc ?_ (by first | omega | (simp; done) | (simp; omega)) _) | refine below_drewN ?_ _ | refine Below.drew ?_ | (refine below_thru (by assumption) ?_ (by first | omega | (simp; done) | (simp; omega))) | exact Below.refl _ _)
        | true =>
          replace hRR : Hid (R = if L.length ≠ 4 then ({}, 20) else Gl.host3 L) := Lib.hid (hRR.out.trans (by rw [Gl.host2, hgl, hb1]; rfl))
          replace hb1 := Lib.hid hb1
          clear hgl
          by_cases h4 : L.length = 4
          · have h4' : ((L.length : Int) != 4) = false := by rw [h4]; rfl
            have hf : Hid (R = match Gl.addrGo 0 (L.drop 0) with | none => ({}, 20) | some a => ({ v4 := true, addr := a }, 0)) := Lib.hid (by rw [hRR.out, if_neg (fun h => h h4)]; rfl)
            have h4a : L.length ≤ 4 := by omega
            have h4b : 4 ≤ L.length := by omega
            clear hRR
            replace h4 := Lib.hid h4
            go_wp2_with (go_at_call 104; refine ( ref2_digits_at _ _ hml hb1.out).mono ?_; rintro e w1 ⟨rfl, rfl⟩)
            go_loop [8, 9, 10, 11] (fun ad i _ _ => ∃ k a : Nat, k ≤ 4 ∧ i = .int .i64 k ∧ ad = .int .u32 a ∧ a < 256 ^ k ∧ Hid (R = match Gl.addrGo a (L.drop k) with | none => ({}, 20) | some a => ({ v4 := true, addr := a }, 0))) (fun _ i _ _ => 4 - (intOf i).toNat)
            case atStart => exact ⟨0, 0, by omega, rfl, rfl, by omega, hf⟩
            case round =>
              obtain ⟨k, a, hk, rfl, rfl, ha, hr⟩ := hrel
              by_cases hlt : k < 4
              · have hlt' : k < L.length := by omega
                rw [drop_consL hlt'] at hr
                have hck := hlcell.out k hlt'
                have hmk := hmem.out k hlt'
                cases hn : Gl.number L[k] 255 with
                | none =>
                  replace hr : Hid (R = ({}, 20)) := Lib.hid (by rw [hr.out, Gl.addrGo, hn])
                  replace hn := Lib.hid hn
                  go_wp2_with (go_at_call 83; refine ( ref1_number_none _ _ _ hmk (by omega) (by omega) hn.out).mono ?_; rintro e w1 ⟨rfl, rfl⟩)
                  refine bodyPost_ret (v := .tuple #[(Value.agg #[(Value.string ⟨#[]⟩), (Value.bool false), (Value.int .u32 0)]), .int .i64 20]) (by simp only [results, Tryd.results82]; go_simp) rfl ⟨by rw [hr.out] <;> rfl, ?_⟩
                  (repeat' first | (with_reducible exact Below.refl _ _) | (with_reducible refine Below.setCell ?_ (by first | omega | (simp; done) | (simp; omega)) _) | (with_reducible refine Below.alloc ?_ (by first | omega | (simp; done) | (simp; omega)) _) | refine below_drewN ?_ _ | refine Below.drew ?_ | (refine below_thru (by assumption) ?_ (by first | omega | (simp; done) | (simp; omega))) | exact Below.refl _ _)
                | some n =>
                  obtain ⟨hn0, hn1⟩ := number_range (by omega) hn
                  obtain ⟨m, rfl⟩ := Int.eq_ofNat_of_zero_le hn0
                  replace hr := Lib.hid (hr.out.trans (by rw [Gl.addrGo, hn]))
                  replace hn := Lib.hid hn
                  have ha2 : (a : Int) ≤ 16777215 := by
                    have : 256 ^ k ≤ 256 ^ 3 := Nat.pow_le_pow_right (by omega) (by omega)
                    omega
                  go_wp2_with (go_at_call 83; refine ( ref1_number_some _ _ _ _ hmk (by omega) (by omega) hn.out).mono ?_; rintro e w1 ⟨rfl, rfl⟩)
                  go_round
                  case rel =>
                    refine ⟨k + 1, a * 256 + m, by omega, by go_num, by push_cast; rfl, ?_, ?_⟩
                    · rw [Nat.pow_succ]; omega
                    · rw [show (a * 256 + ((m : Nat) : Int).toNat) % 4294967296 = a * 256 + m from by rw [Int.toNat_natCast]; omega] at hr
                      exact hr
                  case measure => simp [intOf]; omega
              · have hk4 : k = 4 := by omega
                subst hk4
                have h4l := h4.out
                replace hr : Hid (R = ({ v4 := true, addr := a }, 0)) := Lib.hid (by rw [hr.out, List.drop_eq_nil_of_le (by omega)]; rfl)
                clear h4l ha
                go_wp2
                refine bodyPost_ret (v := .tuple #[(Value.agg #[(Value.string ⟨#[]⟩), (Value.bool true), (Value.int .u32 (a : Int))]), .int .i64 0]) (by simp only [results, Tryd.results82]; go_simp) rfl ⟨by rw [hr.out] <;> rfl, ?_⟩
                (repeat' first | (with_reducible exact Below.refl _ _) | (with_reducible refine Below.setCell ?_ (by first | omega | (simp; done) | (simp; omega)) _) | (with_reducible refine Below.alloc ?_ (by first | omega | (simp; done) | (simp; omega)) _) | refine below_drewN ?_ _ | refine Below.drew ?_ | (refine below_thru (by assumption) ?_ (by first | omega | (simp; done) | (simp; omega))) | exact Below.refl _ _)
          · have h4' : ((L.length : Int) != 4) = true := by rw [bne_iff_ne]; omega
            have hf : Hid (R = ({}, 20)) := Lib.hid (by rw [hRR.out, if_pos h4])
            replace h4 := Lib.hid h4
            go_wp2_with (go_at_call 104; refine ( ref2_digits_at _ _ hml hb1.out).mono ?_; rintro e w1 ⟨rfl, rfl⟩)
            refine bodyPost_ret (v := .tuple #[(Value.agg #[(Value.string ⟨#[]⟩), (Value.bool false), (Value.int .u32 0)]), .int .i64 20]) (by simp only [results, Tryd.results82]; go_simp) rfl ⟨by rw [hf.out] <;> rfl, ?_⟩
            (repeat' first | (with_reducible exact Below.refl _ _) | (with_reducible refine Below.setCell ?_ (by first | omega | (simp; done) | (simp; omega)) _) | (with_reducible refine Below.alloc ?_ (by first | omega | (simp; done) | (simp; omega)) _) | refine below_drewN ?_ _ | refine Below.drew ?_ | (refine below_thru (by assumption) ?_ (by first | omega | (simp; done) | (simp; omega))) | exact Below.refl _ _)
end Go.Proofs.YthmgcnaoionmoaaDoor
