/- The two Inner functions. -/
import Derived.Test.YtbafofldgkigmaaGreatDoorThree
import Derived.Test.YtbafofldgkigmaaGreatDoorOne
namespace Go.Proofs.YtbafofldgkigmaaGreatDoor
open Go.RowKit
attribute [local irreducible] Calls

set_option maxHeartbeats 2000000 in
set_option maxRecDepth 100000 in
theorem ref3_inner_of (u : Gl.URL) (w : World) (hP : ∀ W, Below w.heap.size w W → Calls Tryz.prog 123 #[(Value.string ⟨(u.rest).toArray⟩)] W (Ret W (.tuple #[(Value.agg #[(Value.string ⟨(((Gl.parse u.rest).1).scheme).toArray⟩), (Value.string ⟨((((Gl.parse u.rest).1).host).name).toArray⟩), (Value.bool (((Gl.parse u.rest).1).host).v4), (Value.int .u32 ((((Gl.parse u.rest).1).host).addr : Int)), (Value.int .i64 ((Gl.parse u.rest).1).port), (Value.string ⟨(((Gl.parse u.rest).1).path).toArray⟩), (Value.bool ((Gl.parse u.rest).1).hasQuery), (Value.string ⟨(((Gl.parse u.rest).1).query).toArray⟩), (Value.string ⟨(((Gl.parse u.rest).1).rest).toArray⟩)]), .int .i64 (Gl.parse u.rest).2]))) :
    Calls Tryz.prog 96 #[(Value.agg #[(Value.string ⟨((u).scheme).toArray⟩), (Value.string ⟨(((u).host).name).toArray⟩), (Value.bool ((u).host).v4), (Value.int .u32 (((u).host).addr : Int)), (Value.int .i64 (u).port), (Value.string ⟨((u).path).toArray⟩), (Value.bool (u).hasQuery), (Value.string ⟨((u).query).toArray⟩), (Value.string ⟨((u).rest).toArray⟩)])] w (Ret w (.tuple #[(Value.agg #[(Value.string ⟨(((Gl.innerOf u).1).scheme).toArray⟩), (Value.string ⟨((((Gl.innerOf u).1).host).name).toArray⟩), (Value.bool (((Gl.innerOf u).1).host).v4), (Value.int .u32 ((((Gl.innerOf u).1).host).addr : Int)), (Value.int .i64 ((Gl.innerOf u).1).port), (Value.string ⟨(((Gl.innerOf u).1).path).toArray⟩), (Value.bool ((Gl.innerOf u).1).hasQuery), (Value.string ⟨(((Gl.innerOf u).1).query).toArray⟩), (Value.string ⟨(((Gl.innerOf u).1).rest).toArray⟩)]), .bool (Gl.innerOf u).2])) := by
  have hRR : Gl.innerOf u = if u.scheme ≠ Gl.blob then ({}, false) else if (Gl.parse u.rest).2 ≠ 0 ∨ Gl.isNet (Gl.parse u.rest).1 = false then ({}, false) else ((Gl.parse u.rest).1, true) := rfl
  generalize Gl.innerOf u = R at *
  generalize Gl.parse u.rest = p at *
  obtain ⟨pu, pe⟩ := p
  simp only at hRR hP
  have hnet := fun W => ref3_net pu W
  replace hP := Lib.hid hP
  by_cases hb : u.scheme = Gl.blob
  · rw [if_neg (fun h => h hb)] at hRR
    unfold Gl.blob at hb
    have hb1 : (u.scheme == ([98, 108, 111, 98] : List UInt8)) = true := by rw [hb]; rfl
    replace hb := Lib.hid hb
    by_cases he : pe = 0
    · have he1 : (pe != 0) = false := by rw [he]; rfl
      cases hn : Gl.isNet pu with
      | true =>
        rw [hn] at hnet
        replace hnet := Lib.hid hnet
        have hR : Hid (R = (pu, true)) := Lib.hid (by rw [hRR, if_neg]; rintro (h | h); exact h he; rw [hn] at h; cases h)
        clear hRR
        replace hn := Lib.hid hn
        replace he := Lib.hid he
        go_enter Tryz.func96, Tryz.ntmps96
        go_wp2_with (first | ((first | (go_at_call 123; refine (hP.out _ (bw_)).mono ?_) | (go_at_call 65; refine (hnet.out _).mono ?_)); rintro e w1 ⟨rfl, hb⟩; obtain ⟨hc, hfz⟩ := bcell hb; have hz := hb.size; (try simp at hz); (try have hz0 := lt_ hb w.heap.size); (try have hz1 := lt_ hb (w.heap.size + 1)); (try have hz2 := lt_ hb (w.heap.size + 2)); (try have hz3 := lt_ hb (w.heap.size + 3)); (try have hcA := fun o => hc w.heap.size o sz_); (try have hcB := fun o => hc (w.heap.size + 1) o sz_)))
        refine bodyPost_ret (v := .tuple #[(Value.agg #[(Value.string ⟨((pu).scheme).toArray⟩), (Value.string ⟨(((pu).host).name).toArray⟩), (Value.bool ((pu).host).v4), (Value.int .u32 (((pu).host).addr : Int)), (Value.int .i64 (pu).port), (Value.string ⟨((pu).path).toArray⟩), (Value.bool (pu).hasQuery), (Value.string ⟨((pu).query).toArray⟩), (Value.string ⟨((pu).rest).toArray⟩)]), .bool true]) (by simp only [results, Tryz.results96]; go_simp) rfl ⟨by rw [hR.out] <;> rfl, ?_⟩
        (exact bw_)
      | false =>
        rw [hn] at hnet
        replace hnet := Lib.hid hnet
        have hR : Hid (R = ({}, false)) := Lib.hid (by rw [hRR, if_pos (Or.inr hn)])
        clear hRR
        replace hn := Lib.hid hn
        replace he := Lib.hid he
        go_enter Tryz.func96, Tryz.ntmps96
        go_wp2_with (first | ((first | (go_at_call 123; refine (hP.out _ (bw_)).mono ?_) | (go_at_call 65; refine (hnet.out _).mono ?_)); rintro e w1 ⟨rfl, hb⟩; obtain ⟨hc, hfz⟩ := bcell hb; have hz := hb.size; (try simp at hz); (try have hz0 := lt_ hb w.heap.size); (try have hz1 := lt_ hb (w.heap.size + 1)); (try have hz2 := lt_ hb (w.heap.size + 2)); (try have hz3 := lt_ hb (w.heap.size + 3)); (try have hcA := fun o => hc w.heap.size o sz_); (try have hcB := fun o => hc (w.heap.size + 1) o sz_)))
        refine bodyPost_ret (v := .tuple #[(Value.agg #[(Value.string ⟨#[]⟩), (Value.string ⟨#[]⟩), (Value.bool false), (Value.int .u32 0), (Value.int .i64 0), (Value.string ⟨#[]⟩), (Value.bool false), (Value.string ⟨#[]⟩), (Value.string ⟨#[]⟩)]), .bool false]) (by simp only [results, Tryz.results96]; go_simp) rfl ⟨by rw [hR.out] <;> rfl, ?_⟩
        (exact bw_)
    · have he1 : (pe != 0) = true := by rw [bne_iff_ne]; exact he
      have hR : Hid (R = ({}, false)) := Lib.hid (by rw [hRR, if_pos (Or.inl he)])
      clear hRR
      replace he := Lib.hid he
      cases hn : Gl.isNet pu with
      | true =>
        rw [hn] at hnet
        replace hnet := Lib.hid hnet
        replace hn := Lib.hid hn
        go_enter Tryz.func96, Tryz.ntmps96
        go_wp2_with (first | ((first | (go_at_call 123; refine (hP.out _ (bw_)).mono ?_) | (go_at_call 65; refine (hnet.out _).mono ?_)); rintro e w1 ⟨rfl, hb⟩; obtain ⟨hc, hfz⟩ := bcell hb; have hz := hb.size; (try simp at hz); (try have hz0 := lt_ hb w.heap.size); (try have hz1 := lt_ hb (w.heap.size + 1)); (try have hz2 := lt_ hb (w.heap.size + 2)); (try have hz3 := lt_ hb (w.heap.size + 3)); (try have hcA := fun o => hc w.heap.size o sz_); (try have hcB := fun o => hc (w.heap.size + 1) o sz_)))
        refine bodyPost_ret (v := .tuple #[(Value.agg #[(Value.string ⟨#[]⟩), (Value.string ⟨#[]⟩), (Value.bool false), (Value.int .u32 0), (Value.int .i64 0), (Value.string ⟨#[]⟩), (Value.bool false), (Value.string ⟨#[]⟩), (Value.string ⟨#[]⟩)]), .bool false]) (by simp only [results, Tryz.results96]; go_simp) rfl ⟨by rw [hR.out] <;> rfl, ?_⟩
        (exact bw_)
      | false =>
        rw [hn] at hnet
        replace hnet := Lib.hid hnet
        replace hn := Lib.hid hn
        go_enter Tryz.func96, Tryz.ntmps96
        go_wp2_with (first | ((first | (go_at_call 123; refine (hP.out _ (bw_)).mono ?_) | (go_at_call 65; refine (hnet.out _).mono ?_)); rintro e w1 ⟨rfl, hb⟩; obtain ⟨hc, hfz⟩ := bcell hb; have hz := hb.size; (try simp at hz); (try have hz0 := lt_ hb w.heap.size); (try have hz1 := lt_ hb (w.heap.size + 1)); (try have hz2 := lt_ hb (w.heap.size + 2)); (try have hz3 := lt_ hb (w.heap.size + 3)); (try have hcA := fun o => hc w.heap.size o sz_); (try have hcB := fun o => hc (w.heap.size + 1) o sz_)))
        refine bodyPost_ret (v := .tuple #[(Value.agg #[(Value.string ⟨#[]⟩), (Value.string ⟨#[]⟩), (Value.bool false), (Value.int .u32 0), (Value.int .i64 0), (Value.string ⟨#[]⟩), (Value.bool false), (Value.string ⟨#[]⟩), (Value.string ⟨#[]⟩)]), .bool false]) (by simp only [results, Tryz.results96]; go_simp) rfl ⟨by rw [hR.out] <;> rfl, ?_⟩
        (exact bw_)
  · have hR : Hid (R = ({}, false)) := Lib.hid (by rw [hRR, if_pos hb])
    unfold Gl.blob at hb
    have hb1 : (u.scheme == ([98, 108, 111, 98] : List UInt8)) = false := by rw [beq_eq_false_iff_ne]; exact hb
    clear hRR hnet
    replace hb := Lib.hid hb
    go_enter Tryz.func96, Tryz.ntmps96
    go_wp2
    refine bodyPost_ret (v := .tuple #[(Value.agg #[(Value.string ⟨#[]⟩), (Value.string ⟨#[]⟩), (Value.bool false), (Value.int .u32 0), (Value.int .i64 0), (Value.string ⟨#[]⟩), (Value.bool false), (Value.string ⟨#[]⟩), (Value.string ⟨#[]⟩)]), .bool false]) (by simp only [results, Tryz.results96]; go_simp) rfl ⟨by rw [hR.out] <;> rfl, ?_⟩
    (exact bw_)

set_option maxHeartbeats 2000000 in
set_option maxRecDepth 100000 in
theorem urlp_inner_of (u : Gl.URL) (w : World) (hP : ∀ W, Below w.heap.size w W → Calls Tryz.prog 19 #[(Value.string ⟨(u.rest).toArray⟩)] W (Ret W (.tuple #[(Value.agg #[(Value.string ⟨(((Gl.parse u.rest).1).scheme).toArray⟩), (Value.string ⟨((((Gl.parse u.rest).1).host).name).toArray⟩), (Value.bool (((Gl.parse u.rest).1).host).v4), (Value.int .u32 ((((Gl.parse u.rest).1).host).addr : Int)), (Value.int .i64 ((Gl.parse u.rest).1).port), (Value.string ⟨(((Gl.parse u.rest).1).path).toArray⟩), (Value.bool ((Gl.parse u.rest).1).hasQuery), (Value.string ⟨(((Gl.parse u.rest).1).query).toArray⟩), (Value.string ⟨(((Gl.parse u.rest).1).rest).toArray⟩)]), .int .i64 (Gl.parse u.rest).2]))) :
    Calls Tryz.prog 47 #[(Value.agg #[(Value.string ⟨((u).scheme).toArray⟩), (Value.string ⟨(((u).host).name).toArray⟩), (Value.bool ((u).host).v4), (Value.int .u32 (((u).host).addr : Int)), (Value.int .i64 (u).port), (Value.string ⟨((u).path).toArray⟩), (Value.bool (u).hasQuery), (Value.string ⟨((u).query).toArray⟩), (Value.string ⟨((u).rest).toArray⟩)])] w (Ret w (.tuple #[(Value.agg #[(Value.string ⟨(((Gl.innerOf u).1).scheme).toArray⟩), (Value.string ⟨((((Gl.innerOf u).1).host).name).toArray⟩), (Value.bool (((Gl.innerOf u).1).host).v4), (Value.int .u32 ((((Gl.innerOf u).1).host).addr : Int)), (Value.int .i64 ((Gl.innerOf u).1).port), (Value.string ⟨(((Gl.innerOf u).1).path).toArray⟩), (Value.bool ((Gl.innerOf u).1).hasQuery), (Value.string ⟨(((Gl.innerOf u).1).query).toArray⟩), (Value.string ⟨(((Gl.innerOf u).1).rest).toArray⟩)]), .bool (Gl.innerOf u).2])) := by
  have hRR : Gl.innerOf u = if u.scheme ≠ Gl.blob then ({}, false) else if (Gl.parse u.rest).2 ≠ 0 ∨ Gl.isNet (Gl.parse u.rest).1 = false then ({}, false) else ((Gl.parse u.rest).1, true) := rfl
  generalize Gl.innerOf u = R at *
  generalize Gl.parse u.rest = p at *
  obtain ⟨pu, pe⟩ := p
  simp only at hRR hP
  have hnet := fun W => urlp_net pu W
  replace hP := Lib.hid hP
  by_cases hb : u.scheme = Gl.blob
  · rw [if_neg (fun h => h hb)] at hRR
    unfold Gl.blob at hb
    have hb1 : (u.scheme == ([98, 108, 111, 98] : List UInt8)) = true := by rw [hb]; rfl
    replace hb := Lib.hid hb
    by_cases he : pe = 0
    · have he1 : (pe != 0) = false := by rw [he]; rfl
      cases hn : Gl.isNet pu with
      | true =>
        rw [hn] at hnet
        replace hnet := Lib.hid hnet
        have hR : Hid (R = (pu, true)) := Lib.hid (by rw [hRR, if_neg]; rintro (h | h); exact h he; rw [hn] at h; cases h)
        clear hRR
        replace hn := Lib.hid hn
        replace he := Lib.hid he
        go_enter Tryz.func47, Tryz.ntmps47
        go_wp2_with (first | ((first | (go_at_call 19; refine (hP.out _ (bw_)).mono ?_) | (go_at_call 20; refine (hnet.out _).mono ?_)); rintro e w1 ⟨rfl, hb⟩; obtain ⟨hc, hfz⟩ := bcell hb; have hz := hb.size; (try simp at hz); (try have hz0 := lt_ hb w.heap.size); (try have hz1 := lt_ hb (w.heap.size + 1)); (try have hz2 := lt_ hb (w.heap.size + 2)); (try have hz3 := lt_ hb (w.heap.size + 3)); (try have hcA := fun o => hc w.heap.size o sz_); (try have hcB := fun o => hc (w.heap.size + 1) o sz_)))
        refine bodyPost_ret (v := .tuple #[(Value.agg #[(Value.string ⟨((pu).scheme).toArray⟩), (Value.string ⟨(((pu).host).name).toArray⟩), (Value.bool ((pu).host).v4), (Value.int .u32 (((pu).host).addr : Int)), (Value.int .i64 (pu).port), (Value.string ⟨((pu).path).toArray⟩), (Value.bool (pu).hasQuery), (Value.string ⟨((pu).query).toArray⟩), (Value.string ⟨((pu).rest).toArray⟩)]), .bool true]) (by simp only [results, Tryz.results47]; go_simp) rfl ⟨by rw [hR.out] <;> rfl, ?_⟩
        (exact bw_)
      | false =>
        rw [hn] at hnet
        replace hnet := Lib.hid hnet
        have hR : Hid (R = ({}, false)) := Lib.hid (by rw [hRR, if_pos (Or.inr hn)])
        clear hRR
        replace hn := Lib.hid hn
        replace he := Lib.hid he
        go_enter Tryz.func47, Tryz.ntmps47
        go_wp2_with (first | ((first | (go_at_call 19; refine (hP.out _ (bw_)).mono ?_) | (go_at_call 20; refine (hnet.out _).mono ?_)); rintro e w1 ⟨rfl, hb⟩; obtain ⟨hc, hfz⟩ := bcell hb; have hz := hb.size; (try simp at hz); (try have hz0 := lt_ hb w.heap.size); (try have hz1 := lt_ hb (w.heap.size + 1)); (try have hz2 := lt_ hb (w.heap.size + 2)); (try have hz3 := lt_ hb (w.heap.size + 3)); (try have hcA := fun o => hc w.heap.size o sz_); (try have hcB := fun o => hc (w.heap.size + 1) o sz_)))
        refine bodyPost_ret (v := .tuple #[(Value.agg #[(Value.string ⟨#[]⟩), (Value.string ⟨#[]⟩), (Value.bool false), (Value.int .u32 0), (Value.int .i64 0), (Value.string ⟨#[]⟩), (Value.bool false), (Value.string ⟨#[]⟩), (Value.string ⟨#[]⟩)]), .bool false]) (by simp only [results, Tryz.results47]; go_simp) rfl ⟨by rw [hR.out] <;> rfl, ?_⟩
        (exact bw_)
    · have he1 : (pe != 0) = true := by rw [bne_iff_ne]; exact he
      have hR : Hid (R = ({}, false)) := Lib.hid (by rw [hRR, if_pos (Or.inl he)])
      clear hRR
      replace he := Lib.hid he
      cases hn : Gl.isNet pu with
      | true =>
        rw [hn] at hnet
        replace hnet := Lib.hid hnet
        replace hn := Lib.hid hn
        go_enter Tryz.func47, Tryz.ntmps47
        go_wp2_with (first | ((first | (go_at_call 19; refine (hP.out _ (bw_)).mono ?_) | (go_at_call 20; refine (hnet.out _).mono ?_)); rintro e w1 ⟨rfl, hb⟩; obtain ⟨hc, hfz⟩ := bcell hb; have hz := hb.size; (try simp at hz); (try have hz0 := lt_ hb w.heap.size); (try have hz1 := lt_ hb (w.heap.size + 1)); (try have hz2 := lt_ hb (w.heap.size + 2)); (try have hz3 := lt_ hb (w.heap.size + 3)); (try have hcA := fun o => hc w.heap.size o sz_); (try have hcB := fun o => hc (w.heap.size + 1) o sz_)))
        refine bodyPost_ret (v := .tuple #[(Value.agg #[(Value.string ⟨#[]⟩), (Value.string ⟨#[]⟩), (Value.bool false), (Value.int .u32 0), (Value.int .i64 0), (Value.string ⟨#[]⟩), (Value.bool false), (Value.string ⟨#[]⟩), (Value.string ⟨#[]⟩)]), .bool false]) (by simp only [results, Tryz.results47]; go_simp) rfl ⟨by rw [hR.out] <;> rfl, ?_⟩
        (exact bw_)
      | false =>
        rw [hn] at hnet
        replace hnet := Lib.hid hnet
        replace hn := Lib.hid hn
        go_enter Tryz.func47, Tryz.ntmps47
        go_wp2_with (first | ((first | (go_at_call 19; refine (hP.out _ (bw_)).mono ?_) | (go_at_call 20; refine (hnet.out _).mono ?_)); rintro e w1 ⟨rfl, hb⟩; obtain ⟨hc, hfz⟩ := bcell hb; have hz := hb.size; (try simp at hz); (try have hz0 := lt_ hb w.heap.size); (try have hz1 := lt_ hb (w.heap.size + 1)); (try have hz2 := lt_ hb (w.heap.size + 2)); (try have hz3 := lt_ hb (w.heap.size + 3)); (try have hcA := fun o => hc w.heap.size o sz_); (try have hcB := fun o => hc (w.heap.size + 1) o sz_)))
        refine bodyPost_ret (v := .tuple #[(Value.agg #[(Value.string ⟨#[]⟩), (Value.string ⟨#[]⟩), (Value.bool false), (Value.int .u32 0), (Value.int .i64 0), (Value.string ⟨#[]⟩), (Value.bool false), (Value.string ⟨#[]⟩), (Value.string ⟨#[]⟩)]), .bool false]) (by simp only [results, Tryz.results47]; go_simp) rfl ⟨by rw [hR.out] <;> rfl, ?_⟩
        (exact bw_)
  · have hR : Hid (R = ({}, false)) := Lib.hid (by rw [hRR, if_pos hb])
    unfold Gl.blob at hb
    have hb1 : (u.scheme == ([98, 108, 111, 98] : List UInt8)) = false := by rw [beq_eq_false_iff_ne]; exact hb
    clear hRR hnet
    replace hb := Lib.hid hb
    go_enter Tryz.func47, Tryz.ntmps47
    go_wp2
    refine bodyPost_ret (v := .tuple #[(Value.agg #[(Value.string ⟨#[]⟩), (Value.string ⟨#[]⟩), (Value.bool false), (Value.int .u32 0), (Value.int .i64 0), (Value.string ⟨#[]⟩), (Value.bool false), (Value.string ⟨#[]⟩), (Value.string ⟨#[]⟩)]), .bool false]) (by simp only [results, Tryz.results47]; go_simp) rfl ⟨by rw [hR.out] <;> rfl, ?_⟩
    (exact bw_)

end Go.Proofs.YtbafofldgkigmaaGreatDoor
