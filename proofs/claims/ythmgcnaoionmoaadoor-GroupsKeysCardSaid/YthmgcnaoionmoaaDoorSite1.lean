/- host.Site's 'try': one suffix. -/
import Derived.Test.YthmgcnaoionmoaaDoorSite0
import Derived.Test.YthmgcnaoionmoaaDoorCut
import Derived.Deep.RegionHeld3
namespace Go.Proofs.YthmgcnaoionmoaaDoor
open Go.RowKit
attribute [local irreducible] Calls
/-- Behind a call of 'try': below the block gb nothing has turned, and that holds the longest so far. -/
structure SiteInv (wA : World) (gb b : Nat) (w : World) : Prop where
  below : Below gb wA w
  lt : gb < w.heap.size
  cell : w.cell? ⟨gb, 0, none⟩ = some (.int .i64 (b : Int))
  free : w.frozen? ⟨gb, 0, none⟩ = false
theorem SiteInv.more {wA : World} {gb b : Nat} {w w' : World} (h : SiteInv wA gb b w) (hb : Below w.heap.size w w') : SiteInv wA gb b w' :=
  ⟨h.below.trans (hb.mono (Nat.le_of_lt h.lt)), Nat.lt_of_lt_of_le h.lt hb.size, (hb.cell (p := ⟨gb, 0, none⟩) h.lt).trans h.cell, (hb.frozen (p := ⟨gb, 0, none⟩) h.lt).trans h.free⟩
theorem SiteInv.set {wA : World} {gb b : Nat} {w : World} (h : SiteInv wA gb b w) (b' : Nat) : SiteInv wA gb b' (w.setCell ⟨gb, 0, none⟩ (.int .i64 (b' : Int))) :=
  ⟨h.below.setCell (Nat.le_refl _) _, by simpa using h.lt, World.cell?_setCell_same' _ _ _ (by rw [h.cell]; rfl), by rw [World.frozen?_setCell]; exact h.free⟩
set_option maxHeartbeats 2000000 in
theorem host_try (s : List UInt8) (wA : World) (gl gb b B : Nat) (v : Value) (L : List (List UInt8)) (w : World) (hg : gl < gb) (hB : B ≤ gb) (hcl : wA.cell? ⟨gl, 0, none⟩ = some v) (hv : Strs wA B v L)
    (hL0 : 0 < L.length) (hL : L.length ≤ 1099511627776) (hs : s.length ≤ 1099511627774) (hI : SiteInv wA gb b w) :
    Calls Tryd.prog 89 #[(Value.string ⟨(s).toArray⟩), .pointer (some ⟨gl, 0, none⟩), .pointer (some ⟨gb, 0, none⟩)] w
      (fun e w' => e = .returned (.tuple #[]) ∧ SiteInv wA gb (if Gl.endsIn L (Gl.split 46 s) then max b (Gl.split 46 s).length else b) w') := by
  have hpos := split_pos 46 s
  have hsl := split_len 46 s
  have hsp : ∀ W, Calls Tryd.prog 28 #[(Value.string ⟨(s).toArray⟩), .int .u8 46] W (RetStrs W (Gl.split 46 s)) := fun W => octet_split s 46 W hs
  generalize hM : Gl.split 46 s = M at *
  clear hM
  generalize hR : (if Gl.endsIn L M = true then max b M.length else b) = R
  replace hR := Lib.hid hR
  have hvw : Strs w B v L := hv.keep (hI.below.mono hB)
  obtain ⟨lb, lo, lc, rfl, hlB, _⟩ := hvw.cells 0 hL0
  have hlc : L.length ≤ lc ∧ lc ≤ maxLen := by
    obtain ⟨_, _, he, h1, h2, _⟩ := hvw
    injection he with _ _ he
    rw [he]; exact ⟨h1, h2⟩
  obtain ⟨hlc1, hlc2⟩ := hlc
  unfold maxLen at hlc2
  have hcw : w.cell? ⟨gl, 0, none⟩ = some (.slice (some ⟨lb, lo, none⟩) L.length lc) := (hI.below.cell (p := ⟨gl, 0, none⟩) hg).trans hcl
  have hgw : gl < w.heap.size := Nat.lt_trans hg hI.lt
  have hbw := hI.cell
  have hbl := hI.lt
  replace hsp := Lib.hid hsp
  go_enter Tryd.func89, Tryd.ntmps89
  go_upto_region 0 with fail
  go_cut [4] from 5 (fun p w' => ∃ b1 c1, p = .slice (some ⟨b1, 0, none⟩) M.length c1 ∧ M.length ≤ c1 ∧ c1 ≤ maxLen ∧ Below w.heap.size w w' ∧ Strs w' w'.heap.size p M)
  case first =>
    go_wp2_with (go_at_call 28; refine ( hsp.out _).mono ?_; rintro e w1 ⟨v, rfl, hst, hb⟩; obtain ⟨hc, hfz⟩ := bcell hb; have hz := hb.size; (try simp at hz); (try have hz0 : w.heap.size < w1.heap.size := by omega); (try have hz1 : w.heap.size + 1 < w1.heap.size := by omega); (try have hz2 : w.heap.size + 2 < w1.heap.size := by omega); (try have hz3 : w.heap.size + 3 < w1.heap.size := by omega); obtain ⟨lb, lc, hlc, hlm, hlB, hlv, _, hlcell⟩ := hst.at_; obtain rfl := hlv ( hpos); obtain ⟨hlb, hlB⟩ := hlB ( hpos))
    go_meet
    case rel => exact ⟨_, _, rfl, by assumption, by assumption, by (repeat' first | (with_reducible exact Below.refl _ _) | (with_reducible refine Below.setCell ?_ (by first | omega | (simp; done) | (simp; omega)) _) | (with_reducible refine Below.alloc ?_ (by first | omega | (simp; done) | (simp; omega)) _) | refine below_drewN ?_ _ | refine Below.drew ?_ | (refine below_thru (by assumption) ?_ (by first | omega | (simp; done) | (simp; omega))) | exact Below.refl _ _), hst.strs⟩
  case rest =>
    obtain ⟨b1, c1, rfl, h1, h2, hw, hsM⟩ := hcut
    have hIc := hI.more hw
    have hcw' : wc.cell? ⟨gl, 0, none⟩ = some (.slice (some ⟨lb, lo, none⟩) L.length lc) := (hw.cell (p := ⟨gl, 0, none⟩) hgw).trans hcw
    have hbw' := hIc.cell
    have hbl' := hIc.lt
    have hfr := hIc.free
    have hvc := hvw.keep (hw.mono (show B ≤ w.heap.size by omega))
    clear hcw hbw hw hcl hv hvw
    unfold maxLen at h2
    by_cases hlen : M.length ≤ L.length
    · have hse := hvc.tail (L.length - M.length) (by omega)
      have hte := slices_equal _ _ (L.drop (L.length - M.length)) M wc B wc.heap.size hse hsM (by rw [List.length_drop]; omega) (by omega)
      have hq : Gl.endsIn L M = (L.drop (L.length - M.length) == M) := by unfold Gl.endsIn; simp [hlen]
      generalize (L.drop (L.length - M.length) == M) = q at *
      rw [hq] at hR
      replace hte := Lib.hid hte
      clear hse hsM hq hvc
      cases q with
      | false =>
        have hf : Hid (R = b) := Lib.hid (by rw [← hR.out]; rfl)
        go_wp2_with (go_at_call 90; refine hte.out.mono ?_; rintro e w1 ⟨rfl, hb1⟩)
        go_end0
        exact ⟨rfl, by rw [hf.out]; exact hIc.more hb1⟩
      | true =>
        have hf : Hid (R = max b M.length) := Lib.hid (by rw [← hR.out]; rfl)
        go_wp2_with (go_at_call 90; refine hte.out.mono ?_; rintro e w1 ⟨rfl, hb1⟩; have hbx := (hIc.more hb1).cell; have hfx := (hIc.more hb1).free)
        go_end0
        refine ⟨rfl, ?_⟩
        have := (hIc.more hb1).set R
        rw [hf.out, show ((max b M.length : Nat) : Int) = max (b : Int) (M.length : Int) by omega] at this
        rw [hf.out]
        exact this
    · have hf : Hid (R = b) := Lib.hid (by rw [← hR.out, if_neg]; intro h; exact hlen (endsIn_len h))
      go_wp2_with fail
      go_end0
      exact ⟨rfl, by rw [hf.out]; exact hIc⟩
end Go.Proofs.YthmgcnaoionmoaaDoor
