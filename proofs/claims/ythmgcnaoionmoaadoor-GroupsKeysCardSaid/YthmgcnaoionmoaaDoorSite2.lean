/- host.Site. -/
import Derived.Test.YthmgcnaoionmoaaDoorSite1
import Derived.Test.YthmgcnaoionmoaaDoorHostText
import Derived.Test.YthmgcnaoionmoaaDoorClean
namespace Go.Proofs.YthmgcnaoionmoaaDoor
open Go.RowKit
attribute [local irreducible] Calls
theorem join_len (L : List (List UInt8)) (c : UInt8) : (Lib.join L [c]).length ≤ (Gl.slashed L).length := by
  have : ∀ (L : List (List UInt8)), (Lib.join L [c]).length + 1 ≤ (Gl.slashed L).length ∨ L = [] := by
    intro L
    induction L with
    | nil => exact Or.inr rfl
    | cons a r ih =>
      left
      cases r with
      | nil => simp [Lib.join, Gl.slashed, List.intercalate]
      | cons b s =>
        rcases ih with ih | ih
        · rw [slashed_cons]
          simp [Lib.join, List.intercalate] at ih ⊢
          omega
        · cases ih
  rcases this L with h | rfl
  · omega
  · simp [Lib.join, List.intercalate]
theorem slashed_drop (L : List (List UInt8)) (k : Nat) : (Gl.slashed (L.drop k)).length ≤ (Gl.slashed L).length := by
  conv => rhs; rw [← List.take_append_drop k L]
  rw [slashed_append]
  simp
set_option maxHeartbeats 2000000 in
theorem host_site (h : Gl.Host) (v : Value) (S : List (List UInt8)) (w : World) (hE : Env w) (ha : h.addr < 4294967296) (hn : h.name.length ≤ 1000000) (hv : Strs w w.heap.size v S) (hS : S.length ≤ 1000000) (hSl : ∀ s ∈ S, s.length ≤ 1000000) :
    Calls Tryd.prog 67 #[(Value.agg #[(Value.string ⟨((h).name).toArray⟩), (Value.bool (h).v4), (Value.int .u32 ((h).addr : Int))]), v] w (Ret w ((Value.string ⟨(Gl.siteOf h S).toArray⟩))) := by
  cases hv4 : h.v4 with
  | true =>
    rw [show Gl.siteOf h S = Gl.hostText h by unfold Gl.siteOf; rw [if_pos hv4]]
    have ht : ∀ W, Below w.heap.size w W → Calls Tryd.prog 59 #[(Value.agg #[(Value.string ⟨((h).name).toArray⟩), (Value.bool (h).v4), (Value.int .u32 ((h).addr : Int))])] W (Ret W ((Value.string ⟨(Gl.hostText h).toArray⟩))) := fun W hW => host_text h W (hE.below hW) ha
    rw [hv4] at ht
    generalize Gl.hostText h = t at *
    replace ht := Lib.hid ht
    obtain ⟨A, c, rfl, _⟩ := hv
    go_enter Tryd.func67, Tryd.ntmps67
    go_wp2_with (go_at_call 59; refine ( ht.out _ (by (repeat' first | (with_reducible exact Below.refl _ _) | (with_reducible refine Below.setCell ?_ (by first | omega | (simp; done) | (simp; omega)) _) | (with_reducible refine Below.alloc ?_ (by first | omega | (simp; done) | (simp; omega)) _) | refine below_drewN ?_ _ | refine Below.drew ?_ | (refine below_thru (by assumption) ?_ (by first | omega | (simp; done) | (simp; omega))) | exact Below.refl _ _))).mono ?_; rintro e w1 ⟨rfl, hb⟩; obtain ⟨hc, hfz⟩ := bcell hb; have hz := hb.size; (try simp at hz); (try have hz0 : w.heap.size < w1.heap.size := by omega); (try have hz1 : w.heap.size + 1 < w1.heap.size := by omega); (try have hz2 : w.heap.size + 2 < w1.heap.size := by omega); (try have hz3 : w.heap.size + 3 < w1.heap.size := by omega); (try have hcA := fun o => hc w.heap.size o (by first | omega | (simp; omega))); (try have hcB := fun o => hc (w.heap.size + 1) o (by first | omega | (simp; omega))); (try have hcGg := fun o => hc g o (by first | omega | (simp; omega))); (try have hfGg := fun o => hfz g o (by first | omega | (simp; omega))); (try have hzGg : g < w1.heap.size := by omega); (try have hcGgA := fun o => hc gA o (by first | omega | (simp; omega))); (try have hfGgA := fun o => hfz gA o (by first | omega | (simp; omega))); (try have hzGgA : gA < w1.heap.size := by omega); (try have hcGgB := fun o => hc gB o (by first | omega | (simp; omega))); (try have hfGgB := fun o => hfz gB o (by first | omega | (simp; omega))); (try have hzGgB : gB < w1.heap.size := by omega); (try have hcGgV := fun o => hc gV o (by first | omega | (simp; omega))); (try have hfGgV := fun o => hfz gV o (by first | omega | (simp; omega))); (try have hzGgV : gV < w1.heap.size := by omega))
    go_ret
    exact ⟨by rfl, by (repeat' first | (with_reducible exact Below.refl _ _) | (with_reducible refine Below.setCell ?_ (by first | omega | (simp; done) | (simp; omega)) _) | (with_reducible refine Below.alloc ?_ (by first | omega | (simp; done) | (simp; omega)) _) | refine below_drewN ?_ _ | refine Below.drew ?_ | (refine below_thru (by assumption) ?_ (by first | omega | (simp; done) | (simp; omega))) | exact Below.refl _ _)⟩
  | false =>
    have hR : Gl.siteOf h S = Lib.join (Gl.siteParts (Gl.split 46 h.name) (Gl.best (Gl.split 46 h.name) 0 S)) [46] := by unfold Gl.siteOf; rw [if_neg (by rw [hv4]; simp)]
    generalize Gl.siteOf h S = R at *
    have hpos := split_pos 46 h.name
    have hsl := split_len 46 h.name
    have hlen := slashed_split 46 h.name
    have hsp : ∀ W, Calls Tryd.prog 28 #[(Value.string ⟨(h.name).toArray⟩), .int .u8 46] W (RetStrs W (Gl.split 46 h.name)) := fun W => octet_split h.name 46 W (by omega)
    generalize hL : Gl.split 46 h.name = L at *
    clear hL
    generalize hB : Gl.best L 0 S = BB at *
    have hBB := best_le L S 0 (by omega)
    rw [hB] at hBB
    replace hB := Lib.hid hB
    replace hsp := Lib.hid hsp
    replace hR := Lib.hid hR
    have H := Lib.hid hv
    obtain ⟨A, c, rfl, hc1, hc2, _⟩ := hv
    unfold maxLen at hc2
    go_enter Tryd.func67, Tryd.ntmps67
    go_wp2_with (go_at_call 28; refine ( hsp.out _).mono ?_; rintro e w1 ⟨v, rfl, hst, hb⟩; obtain ⟨hc, hfz⟩ := bcell hb; have hz := hb.size; (try simp at hz); (try have hz0 : w.heap.size < w1.heap.size := by omega); (try have hz1 : w.heap.size + 1 < w1.heap.size := by omega); (try have hz2 : w.heap.size + 2 < w1.heap.size := by omega); (try have hz3 : w.heap.size + 3 < w1.heap.size := by omega); obtain ⟨lb, lc, hlc, hlm, hlB, hlv, _, hlcell⟩ := hst.at_; obtain rfl := hlv ( hpos); obtain ⟨hlb, hlB⟩ := hlB ( hpos))
    have hlB1 := hlB
    have hlb1 := hlb
    rw [World.size_alloc] at hlb1
    have hsz := hb.size
    rw [World.size_alloc] at hsz
    have hw1 : Below w.heap.size w w1 := by (repeat' first | (with_reducible exact Below.refl _ _) | (with_reducible refine Below.setCell ?_ (by first | omega | (simp; done) | (simp; omega)) _) | (with_reducible refine Below.alloc ?_ (by first | omega | (simp; done) | (simp; omega)) _) | refine below_drewN ?_ _ | refine Below.drew ?_ | (refine below_thru (by assumption) ?_ (by first | omega | (simp; done) | (simp; omega))) | exact Below.refl _ _)
    generalize hwA : ((w1.alloc (Obj.cells #[Value.slice (some ⟨lb, 0, none⟩) L.length lc] 36)).alloc (Obj.cells #[Value.int .i64 0] 3)) = wA
    have hA1 : wA.heap.size = w1.heap.size + 2 := by rw [← hwA]; simp
    have hA2 : wA.cell? ⟨w1.heap.size, 0, none⟩ = some (Value.slice (some ⟨lb, 0, none⟩) L.length lc) := by rw [← hwA]; clear hwA; go_simp
    have hA3 : wA.cell? ⟨w1.heap.size + 1, 0, none⟩ = some (.int .i64 0) := by rw [← hwA]; clear hwA; go_simp
    have hA4 : wA.frozen? ⟨w1.heap.size + 1, 0, none⟩ = false := by rw [← hwA]; clear hwA; go_simp
    have hA5 : Below w1.heap.size w1 wA := by rw [← hwA]; exact ((Below.refl _ _).alloc (Nat.le_refl _) _).alloc (by simp) _
    have hA6 : Strs wA w1.heap.size (Value.slice (some ⟨lb, 0, none⟩) L.length lc) L := hst.strs.keep hA5
    have hA7 : Below w.heap.size w wA := hw1.trans (hA5.mono hw1.size)
    have hI0 : SiteInv wA (w1.heap.size + 1) 0 wA := ⟨Below.refl _ _, by omega, hA3, hA4⟩
    clear hwA hc hfz hb hst hlcell
    go_loopw [20] (fun i wr => ∃ k b : Nat, k ≤ S.length ∧ i = .int .i64 k ∧ b ≤ L.length ∧ SiteInv wA (w1.heap.size + 1) b wr ∧ Hid (Gl.best L b (S.drop k) = BB)) (fun i _ => S.length - (intOf i).toNat)
    case atStart => exact ⟨0, 0, Nat.zero_le _, rfl, Nat.zero_le _, hI0, hB⟩
    case round =>
      obtain ⟨k, b, hk, rfl, hbl, hI, hr⟩ := hrel
      have hwr : Below w.heap.size w wr := hA7.trans (hI.below.mono (by have := hw1.size; omega))
      by_cases hlt : k < S.length
      · obtain ⟨sb, so, sd, he, hsB, hcell⟩ := H.out.cells k hlt
        injection he with he1 he2 he3
        subst he1 he3
        have hck := (hwr.cell (p := ⟨sb, so + k, none⟩) hsB).trans (hcell k hlt)
        clear hcell
        have htry := host_try (S[k]) wA w1.heap.size (w1.heap.size + 1) b w1.heap.size _ L wr (by omega) (by omega) hA2 hA6 hpos (by omega) (by have := hSl S[k] (List.getElem_mem hlt); omega) hI
        generalize hb2 : (if Gl.endsIn L (Gl.split 46 S[k]) = true then max b (Gl.split 46 S[k]).length else b) = b2 at htry
        have hb2l : b2 ≤ L.length := by
          rw [← hb2]
          split
          · rename_i he; have := endsIn_len he; omega
          · exact hbl
        have hf : Hid (Gl.best L b2 (S.drop (k + 1)) = BB) := Lib.hid (by rw [← hr.out, drop_consL hlt, ← hb2]; rfl)
        clear hr hb2
        replace htry := Lib.hid htry
        go_wp2_with (go_at_call 89; refine htry.out.mono ?_; rintro e w2 ⟨rfl, hI2⟩)
        go_roundw
        case rel => exact ⟨k + 1, b2, by omega, by go_num, hb2l, hI2, hf⟩
        case measure => simp [intOf]; omega
      · have hf : Hid (BB = b) := Lib.hid (by rw [← hr.out, List.drop_eq_nil_of_le (by omega)]; rfl)
        have hbc := hI.cell
        have hlc2 := (hI.below.cell (p := ⟨w1.heap.size, 0, none⟩) (by simp)).trans hA2
        unfold maxLen at hlm
        have hk2 : (max 0 ((L.length : Int) - max (b : Int) 1 - 1)).toNat = L.length - max b 1 - 1 := by omega
        have hts := (hA6.keep (hI.below.mono (Nat.le_succ _))).tail (L.length - max b 1 - 1) (by omega)
        have hRj : Hid (Lib.join (L.drop (L.length - max b 1 - 1)) [46] = R) := Lib.hid (by rw [hR.out, hf.out]; rfl)
        have hj1 := join_len (L.drop (L.length - max b 1 - 1)) 46
        have hj2 := slashed_drop L (L.length - max b 1 - 1)
        have hjl : (L.drop (L.length - max b 1 - 1)).length ≤ L.length := by rw [List.length_drop]; omega
        rw [Nat.zero_add, ← hk2] at hts
        have hj := join_any _ [46] _ wr (hts.more (by have := hI.lt; omega)) (by rw [hk2]; omega) (by rw [hk2]; omega)
        rw [hk2] at hj hts
        rw [hRj.out, ← hk2] at hj
        replace hj := Lib.hid hj
        replace hk2 := Lib.hid hk2
        clear hts hj1 hj2 hjl
        go_wp2_with (go_at_call 86; refine hj.out.mono ?_; rintro e w2 ⟨rfl, hb2⟩)
        go_ret
        exact ⟨rfl, hwr.trans (hb2.mono hwr.size)⟩
end Go.Proofs.YthmgcnaoionmoaaDoor
