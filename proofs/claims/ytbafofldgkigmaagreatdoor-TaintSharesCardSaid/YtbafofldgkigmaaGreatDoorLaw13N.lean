/- glacislaw13.TaintNames, TaintShares. -/
import Derived.Test.YtbafofldgkigmaaGreatDoorGot13
namespace Go.Proofs.YtbafofldgkigmaaGreatDoor
open Go.RowKit
attribute [local irreducible] Calls
set_option maxRecDepth 100000 in
set_option maxHeartbeats 20000000 in
theorem law13_names (w : World) (hE : Env w) : Calls Tryz.prog 5 #[] w (Ret w (.bool true)) := by
  have hup := fun W (hW : Below w.heap.size w W) => awake13 W (hE.below hW)
  replace hup := Lib.hid hup
  go_enter Tryz.func5, Tryz.ntmps5
  go_wp2_with (go_at_call 22; refine (hup.out _ (bw_)).mono ?_; rintro e w1 ⟨rfl, hb⟩; obtain ⟨hc, hfz⟩ := bcell hb; have hz := hb.size; (try simp at hz); (try have hz0 := lt_ hb w.heap.size); (try have hz1 := lt_ hb (w.heap.size + 1)); (try have hz2 := lt_ hb (w.heap.size + 2)); (try have hz3 := lt_ hb (w.heap.size + 3)); (try have hcA := fun o => hc w.heap.size o sz_); (try have hcB := fun o => hc (w.heap.size + 1) o sz_))
  go_ret
  exact ⟨rfl, bw_⟩
set_option maxRecDepth 100000 in
set_option maxHeartbeats 20000000 in
theorem law13_shares (v : Value) (L : List Gl.Head) (t : List UInt8) (inc : Bool) (w : World) (hE : Env w) (hv : Heads w v L) : Calls Tryz.prog 6 #[v, (Value.string ⟨(t).toArray⟩), .bool inc] w (Ret w (.bool true)) := by
  have hup := fun W (hW : Below w.heap.size w W) => awake13 W (hE.below hW)
  have hfe := fun W (hW : Below w.heap.size w W) => law8_few v L W (hv.below hW)
  replace hup := Lib.hid hup
  cases hs : few8P L
  · rw [hs] at hfe
    replace hfe := Lib.hid hfe
    obtain ⟨A, cc, rfl⟩ := hv.form
    clear hv hE hs
    go_enter Tryz.func6, Tryz.ntmps6
    go_wp2_with (first | ((first | (go_at_call 22; refine (hup.out _ (bw_)).mono ?_) | (go_at_call 23; refine (hfe.out _ (bw_)).mono ?_)); rintro e w1 ⟨rfl, hb⟩; obtain ⟨hc, hfz⟩ := bcell hb; have hz := hb.size; (try simp at hz); (try have hz0 := lt_ hb w.heap.size); (try have hz1 := lt_ hb (w.heap.size + 1)); (try have hz2 := lt_ hb (w.heap.size + 2)); (try have hz3 := lt_ hb (w.heap.size + 3)); (try have hcA := fun o => hc w.heap.size o sz_); (try have hcB := fun o => hc (w.heap.size + 1) o sz_)))
    go_ret
    exact ⟨rfl, bw_⟩
  · obtain ⟨a1, a2⟩ := few8_out hs
    have hfit : ∀ h ∈ L, HeadFit h := fun h hh => ⟨by have := (a2 h hh).1; omega, by have := (a2 h hh).2; omega⟩
    have h1 := fun W (hW : Below w.heap.size w W) => taint_shared v L t inc W (hv.below hW) hfit (by omega)
    have h2 := fun W (hW : Below w.heap.size w W) => ref13_shared v L t inc W (hv.below hW) hfit (by omega)
    rw [hs] at hfe
    obtain ⟨A, cc, rfl⟩ := hv.form
    generalize Gl.shared L t inc = R at *
    replace hfe := Lib.hid hfe
    replace h1 := Lib.hid h1
    replace h2 := Lib.hid h2
    clear hv hE hs a1 a2 hfit
    go_enter Tryz.func6, Tryz.ntmps6
    cases R
    all_goals
      go_wp2_with (first | ((first | (go_at_call 22; refine (hup.out _ (bw_)).mono ?_) | (go_at_call 23; refine (hfe.out _ (bw_)).mono ?_) | (go_at_call 24; refine (h1.out _ (bw_)).mono ?_) | (go_at_call 25; refine (h2.out _ (bw_)).mono ?_)); rintro e w1 ⟨rfl, hb⟩; obtain ⟨hc, hfz⟩ := bcell hb; have hz := hb.size; (try simp at hz); (try have hz0 := lt_ hb w.heap.size); (try have hz1 := lt_ hb (w.heap.size + 1)); (try have hz2 := lt_ hb (w.heap.size + 2)); (try have hz3 := lt_ hb (w.heap.size + 3)); (try have hcA := fun o => hc w.heap.size o sz_); (try have hcB := fun o => hc (w.heap.size + 1) o sz_)))
      go_ret
      exact ⟨rfl, bw_⟩
end Go.Proofs.YtbafofldgkigmaaGreatDoor
