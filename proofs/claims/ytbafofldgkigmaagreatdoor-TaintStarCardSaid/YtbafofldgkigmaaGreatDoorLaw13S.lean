/- glacislaw13.TaintStar. -/
import Derived.Test.YtbafofldgkigmaaGreatDoorGot13
namespace Go.Proofs.YtbafofldgkigmaaGreatDoor
open Go.RowKit
attribute [local irreducible] Calls
theorem heads_two {W : World} {gH : Nat} {a b : Gl.Head} (hH : Blk W gH 39 #[(Value.string ⟨(a.name).toArray⟩), (Value.string ⟨(a.value).toArray⟩), (Value.string ⟨(b.name).toArray⟩), (Value.string ⟨(b.value).toArray⟩)]) : Heads W (.slice (some ⟨gH, 0, none⟩) 2 2) [a, b] := by
  refine ⟨_, 2, rfl, Nat.le_refl _, by decide, fun _ => ⟨gH, 0, rfl, hH.lt, fun j hj i hi => ?_⟩⟩
  rw [hH.cell]
  have h2 : j < 2 := by simpa using hj
  have : j = 0 ∨ j = 1 := by omega
  have h3 : i = 0 ∨ i = 1 := by omega
  rcases this with rfl | rfl <;> rcases h3 with rfl | rfl <;> rfl
def star (a b : List UInt8) : List Gl.Head := [⟨[65, 99, 99, 101, 115, 115, 45, 67, 111, 110, 116, 114, 111, 108, 45, 65, 108, 108, 111, 119, 45, 79, 114, 105, 103, 105, 110], a⟩, ⟨[97, 99, 99, 101, 115, 115, 45, 99, 111, 110, 116, 114, 111, 108, 45, 97, 108, 108, 111, 119, 45, 99, 114, 101, 100, 101, 110, 116, 105, 97, 108, 115], b⟩]
theorem star_fold : Gl.foldS [65, 99, 99, 101, 115, 115, 45, 67, 111, 110, 116, 114, 111, 108, 45, 65, 108, 108, 111, 119, 45, 79, 114, 105, 103, 105, 110] acoT = true ∧ Gl.foldS [97, 99, 99, 101, 115, 115, 45, 99, 111, 110, 116, 114, 111, 108, 45, 97, 108, 108, 111, 119, 45, 99, 114, 101, 100, 101, 110, 116, 105, 97, 108, 115] acoT = false ∧ Gl.foldS [65, 99, 99, 101, 115, 115, 45, 67, 111, 110, 116, 114, 111, 108, 45, 65, 108, 108, 111, 119, 45, 79, 114, 105, 103, 105, 110] accT = false ∧ Gl.foldS [97, 99, 99, 101, 115, 115, 45, 99, 111, 110, 116, 114, 111, 108, 45, 97, 108, 108, 111, 119, 45, 99, 114, 101, 100, 101, 110, 116, 105, 97, 108, 115] accT = true := by decide
theorem star_aco (a b : List UInt8) : Gl.values (star a b) acoT = [Gl.trimH a] := by
  unfold star
  rw [values_cons, values_cons]
  simp only [star_fold.1, star_fold.2.1]
  rfl
theorem star_acc (a b : List UInt8) : Gl.values (star a b) accT = [Gl.trimH b] := by
  unfold star
  rw [values_cons, values_cons]
  simp only [star_fold.2.2.1, star_fold.2.2.2]
  rfl
theorem star_shared (a b t : List UInt8) (inc : Bool) : Gl.shared (star a b) t inc = if inc then (Gl.trimH a == t) && (Gl.trimH b == trueT) else (Gl.trimH a == [42]) || (Gl.trimH a == t) := by
  unfold Gl.shared Gl.combined
  rw [star_aco, star_acc]
  simp [Lib.join]
theorem shared_nil (t : List UInt8) : Gl.shared [] t false = false := rfl
set_option maxRecDepth 100000 in
set_option maxHeartbeats 20000000 in
theorem law13_star (t a b : List UInt8) (w : World) (hE : Env w) : Calls Tryz.prog 9 #[(Value.string ⟨(t).toArray⟩), (Value.string ⟨(a).toArray⟩), (Value.string ⟨(b).toArray⟩)] w (Ret w (.bool true)) := by
  have hup := fun W (hW : Below w.heap.size w W) => awake13 W (hE.below hW)
  replace hup := Lib.hid hup
  by_cases ht : 1000 < t.length
  · clear hE
    go_enter Tryz.func9, Tryz.ntmps9
    go_wp2_with (go_at_call 22; refine (hup.out _ (bw_)).mono ?_; rintro e w1 ⟨rfl, hb⟩; obtain ⟨hc, hfz⟩ := bcell hb; have hz := hb.size; (try simp at hz); (try have hz0 := lt_ hb w.heap.size); (try have hz1 := lt_ hb (w.heap.size + 1)); (try have hz2 := lt_ hb (w.heap.size + 2)); (try have hz3 := lt_ hb (w.heap.size + 3)); (try have hcA := fun o => hc w.heap.size o sz_); (try have hcB := fun o => hc (w.heap.size + 1) o sz_); (try (have i := cf_ hb g; obtain ⟨hcGg, hfGg, hzGg⟩ := i)); (try (have i := cf_ hb gB; obtain ⟨hcGgB, hfGgB, hzGgB⟩ := i)); (try (have i := cf_ hb gC; obtain ⟨hcGgC, hfGgC, hzGgC⟩ := i)))
    go_ret
    exact ⟨rfl, bw_⟩
  by_cases ha : 1000 < a.length
  · clear hE
    go_enter Tryz.func9, Tryz.ntmps9
    go_wp2_with (go_at_call 22; refine (hup.out _ (bw_)).mono ?_; rintro e w1 ⟨rfl, hb⟩; obtain ⟨hc, hfz⟩ := bcell hb; have hz := hb.size; (try simp at hz); (try have hz0 := lt_ hb w.heap.size); (try have hz1 := lt_ hb (w.heap.size + 1)); (try have hz2 := lt_ hb (w.heap.size + 2)); (try have hz3 := lt_ hb (w.heap.size + 3)); (try have hcA := fun o => hc w.heap.size o sz_); (try have hcB := fun o => hc (w.heap.size + 1) o sz_); (try (have i := cf_ hb g; obtain ⟨hcGg, hfGg, hzGg⟩ := i)); (try (have i := cf_ hb gB; obtain ⟨hcGgB, hfGgB, hzGgB⟩ := i)); (try (have i := cf_ hb gC; obtain ⟨hcGgC, hfGgC, hzGgC⟩ := i)))
    go_ret
    exact ⟨rfl, bw_⟩
  by_cases hb : 1000 < b.length
  · clear hE
    go_enter Tryz.func9, Tryz.ntmps9
    go_wp2_with (go_at_call 22; refine (hup.out _ (bw_)).mono ?_; rintro e w1 ⟨rfl, hb⟩; obtain ⟨hc, hfz⟩ := bcell hb; have hz := hb.size; (try simp at hz); (try have hz0 := lt_ hb w.heap.size); (try have hz1 := lt_ hb (w.heap.size + 1)); (try have hz2 := lt_ hb (w.heap.size + 2)); (try have hz3 := lt_ hb (w.heap.size + 3)); (try have hcA := fun o => hc w.heap.size o sz_); (try have hcB := fun o => hc (w.heap.size + 1) o sz_); (try (have i := cf_ hb g; obtain ⟨hcGg, hfGg, hzGg⟩ := i)); (try (have i := cf_ hb gB; obtain ⟨hcGgB, hfGgB, hzGgB⟩ := i)); (try (have i := cf_ hb gC; obtain ⟨hcGgC, hfGgC, hzGgC⟩ := i)))
    go_ret
    exact ⟨rfl, bw_⟩
  have hfit : ∀ h ∈ star a b, HeadFit h := fun h hh => by
    simp only [star, List.mem_cons, List.not_mem_nil, or_false] at hh
    rcases hh with rfl | rfl
    · exact ⟨by simp, by show a.length ≤ 1000000; omega⟩
    · exact ⟨by simp, by show b.length ≤ 1000000; omega⟩
  have h1 := fun g W (hW : Below w.heap.size w W) (hB : Blk W g 39 #[.string ⟨#[65, 99, 99, 101, 115, 115, 45, 67, 111, 110, 116, 114, 111, 108, 45, 65, 108, 108, 111, 119, 45, 79, 114, 105, 103, 105, 110]⟩, (Value.string ⟨(a).toArray⟩), .string ⟨#[97, 99, 99, 101, 115, 115, 45, 99, 111, 110, 116, 114, 111, 108, 45, 97, 108, 108, 111, 119, 45, 99, 114, 101, 100, 101, 110, 116, 105, 97, 108, 115]⟩, (Value.string ⟨(b).toArray⟩)]) => headers_values (.slice (some ⟨g, 0, none⟩) 2 2) (star a b) acoT W (heads_two (a := ⟨[65, 99, 99, 101, 115, 115, 45, 67, 111, 110, 116, 114, 111, 108, 45, 65, 108, 108, 111, 119, 45, 79, 114, 105, 103, 105, 110], a⟩) (b := ⟨[97, 99, 99, 101, 115, 115, 45, 99, 111, 110, 116, 114, 111, 108, 45, 97, 108, 108, 111, 119, 45, 99, 114, 101, 100, 101, 110, 116, 105, 97, 108, 115], b⟩) hB) hfit (by simp [star]) (by decide)
  have h2 := fun g W (hW : Below w.heap.size w W) (hB : Blk W g 39 #[.string ⟨#[65, 99, 99, 101, 115, 115, 45, 67, 111, 110, 116, 114, 111, 108, 45, 65, 108, 108, 111, 119, 45, 79, 114, 105, 103, 105, 110]⟩, (Value.string ⟨(a).toArray⟩), .string ⟨#[97, 99, 99, 101, 115, 115, 45, 99, 111, 110, 116, 114, 111, 108, 45, 97, 108, 108, 111, 119, 45, 99, 114, 101, 100, 101, 110, 116, 105, 97, 108, 115]⟩, (Value.string ⟨(b).toArray⟩)]) => headers_values (.slice (some ⟨g, 0, none⟩) 2 2) (star a b) accT W (heads_two (a := ⟨[65, 99, 99, 101, 115, 115, 45, 67, 111, 110, 116, 114, 111, 108, 45, 65, 108, 108, 111, 119, 45, 79, 114, 105, 103, 105, 110], a⟩) (b := ⟨[97, 99, 99, 101, 115, 115, 45, 99, 111, 110, 116, 114, 111, 108, 45, 97, 108, 108, 111, 119, 45, 99, 114, 101, 100, 101, 110, 116, 105, 97, 108, 115], b⟩) hB) hfit (by simp [star]) (by decide)
  have h3 := fun g W (hW : Below w.heap.size w W) (hB : Blk W g 39 #[.string ⟨#[65, 99, 99, 101, 115, 115, 45, 67, 111, 110, 116, 114, 111, 108, 45, 65, 108, 108, 111, 119, 45, 79, 114, 105, 103, 105, 110]⟩, (Value.string ⟨(a).toArray⟩), .string ⟨#[97, 99, 99, 101, 115, 115, 45, 99, 111, 110, 116, 114, 111, 108, 45, 97, 108, 108, 111, 119, 45, 99, 114, 101, 100, 101, 110, 116, 105, 97, 108, 115]⟩, (Value.string ⟨(b).toArray⟩)]) => taint_shared (.slice (some ⟨g, 0, none⟩) 2 2) (star a b) t true W (heads_two (a := ⟨[65, 99, 99, 101, 115, 115, 45, 67, 111, 110, 116, 114, 111, 108, 45, 65, 108, 108, 111, 119, 45, 79, 114, 105, 103, 105, 110], a⟩) (b := ⟨[97, 99, 99, 101, 115, 115, 45, 99, 111, 110, 116, 114, 111, 108, 45, 97, 108, 108, 111, 119, 45, 99, 114, 101, 100, 101, 110, 116, 105, 97, 108, 115], b⟩) hB) hfit (by simp [star])
  have h4 := fun g W (hW : Below w.heap.size w W) (hB : Blk W g 39 #[.string ⟨#[65, 99, 99, 101, 115, 115, 45, 67, 111, 110, 116, 114, 111, 108, 45, 65, 108, 108, 111, 119, 45, 79, 114, 105, 103, 105, 110]⟩, (Value.string ⟨(a).toArray⟩), .string ⟨#[97, 99, 99, 101, 115, 115, 45, 99, 111, 110, 116, 114, 111, 108, 45, 97, 108, 108, 111, 119, 45, 99, 114, 101, 100, 101, 110, 116, 105, 97, 108, 115]⟩, (Value.string ⟨(b).toArray⟩)]) => taint_shared (.slice (some ⟨g, 0, none⟩) 2 2) (star a b) t false W (heads_two (a := ⟨[65, 99, 99, 101, 115, 115, 45, 67, 111, 110, 116, 114, 111, 108, 45, 65, 108, 108, 111, 119, 45, 79, 114, 105, 103, 105, 110], a⟩) (b := ⟨[97, 99, 99, 101, 115, 115, 45, 99, 111, 110, 116, 114, 111, 108, 45, 97, 108, 108, 111, 119, 45, 99, 114, 101, 100, 101, 110, 116, 105, 97, 108, 115], b⟩) hB) hfit (by simp [star])
  have h5 := fun W => taint_shared (.slice none 0 0) [] t false W (Slots.empty W 2) (fun x hx => by cases hx) (by decide)
  rw [star_aco] at h1
  rw [star_acc] at h2
  rw [star_shared] at h3 h4
  rw [shared_nil] at h5
  simp only [if_true, Bool.false_eq_true, if_false] at h3 h4
  have ht1 : t.length ≤ 1000 := by omega
  have ha1 : a.length ≤ 1000 := by omega
  have hb1 : b.length ≤ 1000 := by omega
  generalize Gl.trimH a = x1 at *
  generalize Gl.trimH b = x2 at *
  obtain ⟨p1, hp1⟩ : ∃ p, (x1 == t) = p := ⟨_, rfl⟩
  obtain ⟨p2, hp2⟩ : ∃ p, (x2 == [116, 114, 117, 101]) = p := ⟨_, rfl⟩
  obtain ⟨p3, hp3⟩ : ∃ p, (x1 == [42]) = p := ⟨_, rfl⟩
  have hp4 : (x2 == trueT) = p2 := hp2
  rw [hp1, hp4] at h3
  rw [hp1, hp3] at h4
  clear hp4 hfit hE ht ha hb
  replace h1 := Lib.hid h1
  replace h2 := Lib.hid h2
  replace h3 := Lib.hid h3
  replace h4 := Lib.hid h4
  replace h5 := Lib.hid h5
  go_enter Tryz.func9, Tryz.ntmps9
  go_upto_region 11 with (first | ((first | (go_at_call 22; refine (hup.out _ (bw_)).mono ?_) | (go_at_call 24; refine (h3.out _ _ (bw_) (bk_)).mono ?_) | (go_at_call 24; refine (h4.out _ _ (bw_) (bk_)).mono ?_)); rintro e w1 ⟨rfl, hb⟩; obtain ⟨hc, hfz⟩ := bcell hb; have hz := hb.size; (try simp at hz); (try have hz0 := lt_ hb w.heap.size); (try have hz1 := lt_ hb (w.heap.size + 1)); (try have hz2 := lt_ hb (w.heap.size + 2)); (try have hz3 := lt_ hb (w.heap.size + 3)); (try have hcA := fun o => hc w.heap.size o sz_); (try have hcB := fun o => hc (w.heap.size + 1) o sz_); (try (have i := cf_ hb g; obtain ⟨hcGg, hfGg, hzGg⟩ := i)); (try (have i := cf_ hb gB; obtain ⟨hcGgB, hfGgB, hzGgB⟩ := i)); (try (have i := cf_ hb gC; obtain ⟨hcGgC, hfGgC, hzGgC⟩ := i))) | (go_at_call 30; refine (h1.out _ _ (bw_) (bk_)).mono ?_; rintro e w1 ⟨v, rfl, hown, hb⟩; have hst := hown; obtain ⟨hc, hfz⟩ := bcell hb; have hz := hb.size; (try simp at hz); (try (have i := cf_ hb gB; obtain ⟨hcGgB, hfGgB, hzGgB⟩ := i)); obtain ⟨gB, lc, hlc, hlm, hlB, hlv, _, hlcell⟩ := hst.at_; obtain rfl := hlv (by simp); obtain ⟨hlbgB, hltgB⟩ := hlB (by simp); have hxgB := hlcell 0 (by simp); simp only [List.getElem_cons_zero] at hxgB; clear hlcell hlB hlv hst hown) | (go_at_call 30; refine (h2.out _ _ (bw_) (bk_)).mono ?_; rintro e w1 ⟨v, rfl, hown, hb⟩; have hst := hown; obtain ⟨hc, hfz⟩ := bcell hb; have hz := hb.size; (try simp at hz); (try (have i := cf_ hb gB; obtain ⟨hcGgB, hfGgB, hzGgB⟩ := i)); obtain ⟨gC, lc, hlc, hlm, hlB, hlv, _, hlcell⟩ := hst.at_; obtain rfl := hlv (by simp); obtain ⟨hlbgC, hltgC⟩ := hlB (by simp); have hxgC := hlcell 0 (by simp); simp only [List.getElem_cons_zero] at hxgC; clear hlcell hlB hlv hst hown))
  cases p1 <;> cases p2 <;> cases p3
  all_goals
    go_wp2_with (go_at_call 24; refine (h5.out _).mono ?_; rintro e w1 ⟨rfl, hb⟩; obtain ⟨hc, hfz⟩ := bcell hb; have hz := hb.size; (try simp at hz); (try have hz0 := lt_ hb w.heap.size); (try have hz1 := lt_ hb (w.heap.size + 1)); (try have hz2 := lt_ hb (w.heap.size + 2)); (try have hz3 := lt_ hb (w.heap.size + 3)); (try have hcA := fun o => hc w.heap.size o sz_); (try have hcB := fun o => hc (w.heap.size + 1) o sz_); (try (have i := cf_ hb g; obtain ⟨hcGg, hfGg, hzGg⟩ := i)); (try (have i := cf_ hb gB; obtain ⟨hcGgB, hfGgB, hzGgB⟩ := i)); (try (have i := cf_ hb gC; obtain ⟨hcGgC, hfGgC, hzGgC⟩ := i)))

    go_ret
    exact ⟨rfl, bw_⟩
end Go.Proofs.YtbafofldgkigmaaGreatDoor
