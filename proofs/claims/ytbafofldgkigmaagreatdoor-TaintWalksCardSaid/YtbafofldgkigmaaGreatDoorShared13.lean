/- Does a head share a response? -/
import Derived.Test.YtbafofldgkigmaaGreatDoorPlain13
import Derived.Test.YtbafofldgkigmaaGreatDoorRefHeads
namespace Go.Proofs.YtbafofldgkigmaaGreatDoor
open Go.RowKit
attribute [local irreducible] Calls
set_option maxRecDepth 100000 in
set_option maxHeartbeats 40000000 in
theorem taint_shared (v : Value) (L : List Gl.Head) (t : List UInt8) (inc : Bool) (w : World) (hv : Heads w v L) (hL : ∀ h ∈ L, HeadFit h) (hLl : L.length ≤ 1000000) : Calls Tryz.prog 24 #[v, (Value.string ⟨(t).toArray⟩), .bool inc] w (Ret w (.bool (Gl.shared L t inc))) := by
  have h1 : ∀ W, Below w.heap.size w W → Calls Tryz.prog 60 #[v, .string ⟨#[97, 99, 99, 101, 115, 115, 45, 99, 111, 110, 116, 114, 111, 108, 45, 97, 108, 108, 111, 119, 45, 111, 114, 105, 103, 105, 110]⟩] W (Ret W (.tuple #[(Value.string ⟨(Gl.combined L acoT).toArray⟩), .bool (decide (0 < (Gl.values L acoT).length))])) := fun W hW => headers_combined v L acoT W (hv.below hW) hL hLl (by decide)
  have h2 : ∀ W, Below w.heap.size w W → Calls Tryz.prog 60 #[v, .string ⟨#[97, 99, 99, 101, 115, 115, 45, 99, 111, 110, 116, 114, 111, 108, 45, 97, 108, 108, 111, 119, 45, 99, 114, 101, 100, 101, 110, 116, 105, 97, 108, 115]⟩] W (Ret W (.tuple #[(Value.string ⟨(Gl.combined L accT).toArray⟩), .bool (decide (0 < (Gl.values L accT).length))])) := fun W hW => headers_combined v L accT W (hv.below hW) hL hLl (by decide)
  obtain ⟨R, hR⟩ : ∃ R, Gl.shared L t inc = R := ⟨_, rfl⟩
  rw [hR]
  unfold Gl.shared at hR
  generalize Gl.combined L acoT = C1 at *
  generalize Gl.combined L accT = C2 at *
  generalize decide (0 < (Gl.values L accT).length) = z2 at *
  obtain ⟨a, ha⟩ : ∃ a, (C1 == [42]) = a := ⟨_, rfl⟩
  obtain ⟨b, hb1⟩ : ∃ b, (C1 == t) = b := ⟨_, rfl⟩
  obtain ⟨c, hc1⟩ : ∃ c, (C2 == [116, 114, 117, 101]) = c := ⟨_, rfl⟩
  have hc2 : (C2 == trueT) = c := hc1
  rw [ha, hb1, hc2] at hR
  clear hc2
  obtain ⟨A, n, rfl⟩ := hv.form
  replace h1 := Lib.hid h1
  replace h2 := Lib.hid h2
  clear hv hL
  by_cases h0 : 0 < (Gl.values L acoT).length
  · rw [if_pos h0] at hR
    rw [decide_eq_true h0] at h1
    clear h0
    cases inc
    · cases a <;> cases b
      all_goals
        simp at hR
        subst hR
        go_enter Tryz.func24, Tryz.ntmps24
        go_wp2_with (first | ((first | (go_at_call 60; refine (h1.out _ (bw_)).mono ?_) | (go_at_call 60; refine (h2.out _ (bw_)).mono ?_)); rintro e w1 ⟨rfl, hb⟩; obtain ⟨hc, hfz⟩ := bcell hb; have hz := hb.size; (try simp at hz); (try have hz0 := lt_ hb w.heap.size); (try have hz1 := lt_ hb (w.heap.size + 1)); (try have hz2 := lt_ hb (w.heap.size + 2)); (try have hz3 := lt_ hb (w.heap.size + 3)); (try have hcA := fun o => hc w.heap.size o sz_); (try have hcB := fun o => hc (w.heap.size + 1) o sz_)))
        go_ret
        exact ⟨rfl, bw_⟩
    · cases a <;> cases b <;> cases c
      all_goals
        simp at hR
        subst hR
        go_enter Tryz.func24, Tryz.ntmps24
        go_wp2_with (first | ((first | (go_at_call 60; refine (h1.out _ (bw_)).mono ?_) | (go_at_call 60; refine (h2.out _ (bw_)).mono ?_)); rintro e w1 ⟨rfl, hb⟩; obtain ⟨hc, hfz⟩ := bcell hb; have hz := hb.size; (try simp at hz); (try have hz0 := lt_ hb w.heap.size); (try have hz1 := lt_ hb (w.heap.size + 1)); (try have hz2 := lt_ hb (w.heap.size + 2)); (try have hz3 := lt_ hb (w.heap.size + 3)); (try have hcA := fun o => hc w.heap.size o sz_); (try have hcB := fun o => hc (w.heap.size + 1) o sz_)))
        go_ret
        exact ⟨rfl, bw_⟩
  · rw [if_neg h0] at hR
    rw [decide_eq_false h0] at h1
    clear h0 ha hb1 hc1
    subst hR
    go_enter Tryz.func24, Tryz.ntmps24
    go_wp2_with (first | ((first | (go_at_call 60; refine (h1.out _ (bw_)).mono ?_) | (go_at_call 60; refine (h2.out _ (bw_)).mono ?_)); rintro e w1 ⟨rfl, hb⟩; obtain ⟨hc, hfz⟩ := bcell hb; have hz := hb.size; (try simp at hz); (try have hz0 := lt_ hb w.heap.size); (try have hz1 := lt_ hb (w.heap.size + 1)); (try have hz2 := lt_ hb (w.heap.size + 2)); (try have hz3 := lt_ hb (w.heap.size + 3)); (try have hcA := fun o => hc w.heap.size o sz_); (try have hcB := fun o => hc (w.heap.size + 1) o sz_)))
    go_ret
    exact ⟨rfl, bw_⟩
set_option maxRecDepth 100000 in
set_option maxHeartbeats 40000000 in
theorem ref13_shared (v : Value) (L : List Gl.Head) (t : List UInt8) (inc : Bool) (w : World) (hv : Heads w v L) (hL : ∀ h ∈ L, HeadFit h) (hLl : L.length ≤ 1000000) : Calls Tryz.prog 25 #[v, (Value.string ⟨(t).toArray⟩), .bool inc] w (Ret w (.bool (Gl.shared L t inc))) := by
  have h1 : ∀ W, Below w.heap.size w W → Calls Tryz.prog 61 #[v, .string ⟨#[97, 99, 99, 101, 115, 115, 45, 99, 111, 110, 116, 114, 111, 108, 45, 97, 108, 108, 111, 119, 45, 111, 114, 105, 103, 105, 110]⟩] W (Ret W (.tuple #[(Value.string ⟨(Gl.combined L acoT).toArray⟩), .bool (decide (0 < (Gl.values L acoT).length))])) := fun W hW => ref7_combined v L acoT W (hv.below hW) hL hLl (by decide)
  have h2 : ∀ W, Below w.heap.size w W → Calls Tryz.prog 61 #[v, .string ⟨#[97, 99, 99, 101, 115, 115, 45, 99, 111, 110, 116, 114, 111, 108, 45, 97, 108, 108, 111, 119, 45, 99, 114, 101, 100, 101, 110, 116, 105, 97, 108, 115]⟩] W (Ret W (.tuple #[(Value.string ⟨(Gl.combined L accT).toArray⟩), .bool (decide (0 < (Gl.values L accT).length))])) := fun W hW => ref7_combined v L accT W (hv.below hW) hL hLl (by decide)
  obtain ⟨R, hR⟩ : ∃ R, Gl.shared L t inc = R := ⟨_, rfl⟩
  rw [hR]
  unfold Gl.shared at hR
  generalize Gl.combined L acoT = C1 at *
  generalize Gl.combined L accT = C2 at *
  generalize decide (0 < (Gl.values L accT).length) = z2 at *
  obtain ⟨a, ha⟩ : ∃ a, (C1 == [42]) = a := ⟨_, rfl⟩
  obtain ⟨b, hb1⟩ : ∃ b, (C1 == t) = b := ⟨_, rfl⟩
  obtain ⟨c, hc1⟩ : ∃ c, (C2 == [116, 114, 117, 101]) = c := ⟨_, rfl⟩
  have hc2 : (C2 == trueT) = c := hc1
  rw [ha, hb1, hc2] at hR
  clear hc2
  obtain ⟨A, n, rfl⟩ := hv.form
  replace h1 := Lib.hid h1
  replace h2 := Lib.hid h2
  clear hv hL
  by_cases h0 : 0 < (Gl.values L acoT).length
  · rw [if_pos h0] at hR
    rw [decide_eq_true h0] at h1
    clear h0
    cases inc
    · cases a <;> cases b
      all_goals
        simp at hR
        subst hR
        go_enter Tryz.func25, Tryz.ntmps25
        go_wp2_with (first | ((first | (go_at_call 61; refine (h1.out _ (bw_)).mono ?_) | (go_at_call 61; refine (h2.out _ (bw_)).mono ?_)); rintro e w1 ⟨rfl, hb⟩; obtain ⟨hc, hfz⟩ := bcell hb; have hz := hb.size; (try simp at hz); (try have hz0 := lt_ hb w.heap.size); (try have hz1 := lt_ hb (w.heap.size + 1)); (try have hz2 := lt_ hb (w.heap.size + 2)); (try have hz3 := lt_ hb (w.heap.size + 3)); (try have hcA := fun o => hc w.heap.size o sz_); (try have hcB := fun o => hc (w.heap.size + 1) o sz_)))
        go_ret
        exact ⟨rfl, bw_⟩
    · cases a <;> cases b <;> cases c
      all_goals
        simp at hR
        subst hR
        go_enter Tryz.func25, Tryz.ntmps25
        go_wp2_with (first | ((first | (go_at_call 61; refine (h1.out _ (bw_)).mono ?_) | (go_at_call 61; refine (h2.out _ (bw_)).mono ?_)); rintro e w1 ⟨rfl, hb⟩; obtain ⟨hc, hfz⟩ := bcell hb; have hz := hb.size; (try simp at hz); (try have hz0 := lt_ hb w.heap.size); (try have hz1 := lt_ hb (w.heap.size + 1)); (try have hz2 := lt_ hb (w.heap.size + 2)); (try have hz3 := lt_ hb (w.heap.size + 3)); (try have hcA := fun o => hc w.heap.size o sz_); (try have hcB := fun o => hc (w.heap.size + 1) o sz_)))
        go_ret
        exact ⟨rfl, bw_⟩
  · rw [if_neg h0] at hR
    rw [decide_eq_false h0] at h1
    clear h0 ha hb1 hc1
    subst hR
    go_enter Tryz.func25, Tryz.ntmps25
    go_wp2_with (first | ((first | (go_at_call 61; refine (h1.out _ (bw_)).mono ?_) | (go_at_call 61; refine (h2.out _ (bw_)).mono ?_)); rintro e w1 ⟨rfl, hb⟩; obtain ⟨hc, hfz⟩ := bcell hb; have hz := hb.size; (try simp at hz); (try have hz0 := lt_ hb w.heap.size); (try have hz1 := lt_ hb (w.heap.size + 1)); (try have hz2 := lt_ hb (w.heap.size + 2)); (try have hz3 := lt_ hb (w.heap.size + 3)); (try have hcA := fun o => hc w.heap.size o sz_); (try have hcB := fun o => hc (w.heap.size + 1) o sz_)))
    go_ret
    exact ⟨rfl, bw_⟩
end Go.Proofs.YtbafofldgkigmaaGreatDoor
