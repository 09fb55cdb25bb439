/- The two Inner functions. -/
import Derived.Test.YtkfoogmncokjnaaGreatDoorThree
import Derived.Test.YtkfoogmncokjnaaGreatDoorOne
namespace Go.Proofs.YtkfoogmncokjnaaGreatDoor
open Go.RowKit
attribute [local irreducible] Calls

set_option maxHeartbeats 2000000 in
set_option maxRecDepth 100000 in
theorem ref3_inner_of (u : Gl.URL) (w : World) (hP : ∀ W, Below w.heap.size w W → Calls Tryz.prog 82 #[(Value.string ⟨(u.rest).toArray⟩)] W (Ret W (.tuple #[(Value.agg #[(Value.string ⟨(((Gl.parse u.rest).1).scheme).toArray⟩), (Value.string ⟨((((Gl.parse u.rest).1).host).name).toArray⟩), (Value.bool (((Gl.parse u.rest).1).host).v4), (Value.int .u32 ((((Gl.parse u.rest).1).host).addr : Int)), (Value.int .i64 ((Gl.parse u.rest).1).port), (Value.string ⟨(((Gl.parse u.rest).1).path).toArray⟩), (Value.bool ((Gl.parse u.rest).1).hasQuery), (Value.string ⟨(((Gl.parse u.rest).1).query).toArray⟩), (Value.string ⟨(((Gl.parse u.rest).1).rest).toArray⟩)]), .int .i64 (Gl.parse u.rest).2]))) :
    Calls Tryz.prog 64 #[(Value.agg #[(Value.string ⟨((u).scheme).toArray⟩), (Value.string ⟨(((u).host).name).toArray⟩), (Value.bool ((u).host).v4), (Value.int .u32 (((u).host).addr : Int)), (Value.int .i64 (u).port), (Value.string ⟨((u).path).toArray⟩), (Value.bool (u).hasQuery), (Value.string ⟨((u).query).toArray⟩), (Value.string ⟨((u).rest).toArray⟩)])] w (Ret w (.tuple #[(Value.agg #[(Value.string ⟨(((Gl.innerOf u).1).scheme).toArray⟩), (Value.string ⟨((((Gl.innerOf u).1).host).name).toArray⟩), (Value.bool (((Gl.innerOf u).1).host).v4), (Value.int .u32 ((((Gl.innerOf u).1).host).addr : Int)), (Value.int .i64 ((Gl.innerOf u).1).port), (Value.string ⟨(((Gl.innerOf u).1).path).toArray⟩), (Value.bool ((Gl.innerOf u).1).hasQuery), (Value.string ⟨(((Gl.innerOf u).1).query).toArray⟩), (Value.string ⟨(((Gl.innerOf u).1).rest).toArray⟩)]), .bool (Gl.innerOf u).2])) := by
  have hRR : Gl.innerOf u = if u.scheme ≠ Gl.blob then ({}, false) else if (Gl.parse u.rest).2 ≠ 0 ∨ Gl.isNet (Gl.parse u.rest).1 = false then ({}, false) else ((Gl.parse u.rest).1, true) := rfl
  generalize Gl.innerOf u = R at *
  generalize Gl.parse u.rest = p at *
  obtain ⟨pu, pe⟩ := p
  simp only at hRR hP
  have hnet := fun W => ref3_net pu W
  replace hP := Lib.hid hP
  by_cases hb : u.scheme = Gl.blob
  · rw [if_neg (fun h => h hb)] at hRR
    unfold Gl.blob at hb
    have hb1 : (u.scheme == ([98, 108, 111, 98] : List UInt8)) = true := by rw [hb]; rfl
    replace hb := Lib.hid hb
    by_cases he : pe = 0
    · have he1 : (pe != 0) = false := by rw [he]; rfl
      cases hn : Gl.isNet pu with
      | true =>
        rw [hn] at hnet
        replace hnet := Lib.hid hnet
        have hR : Hid (R = (pu, true)) := Lib.hid (by rw [hRR, if_neg]; rintro (h | h); exact h he; rw [hn] at h; cases h)
        clear hRR
        replace hn := Lib.hid hn
        replace he := Lib.hid he
        go_enter Tryz.func64, Tryz.ntmps64
        go_wp2_with (first | (go_at_call 82; refine ( hP.out _ (by (repeat' first | (with_reducible exact Below.refl _ _) | (with_reducible refine Below.setCell ?_ (by first | omega | (simp; done) | (simp; omega)) _) | (with_reducible refine Below.alloc ?_ (by first | omega | (simp; done) | (simp; omega)) _) | refine below_drewN ?_ _ | refine Below.drew ?_ | (refine below_thru (by assumption) ?_ (by first | omega | (simp; done) | (simp; omega))) | exact Below.refl _ _))).mono ?_; rintro e w1 ⟨rfl, hb⟩; obtain ⟨hc, hfz⟩ := bcell hb; have hz := hb.size; (try simp at hz); (try have hz0 : w.heap.size < w1.heap.size := by omega); (try have hz1 : w.heap.size + 1 < w1.heap.size := by omega); (try have hz2 : w.heap.size + 2 < w1.heap.size := by omega); (try have hz3 : w.heap.size + 3 < w1.heap.size := by omega); (try have hcA := fun o => hc w.heap.size o (by first | omega | (simp; omega))); (try have hcB := fun o => hc (w.heap.size + 1) o (by first | omega | (simp; omega)))) | (go_at_call 43; refine ( hnet.out _).mono ?_; rintro e w1 ⟨rfl, hb⟩; obtain ⟨hc, hfz⟩ := bcell hb; have hz := hb.size; (try simp at hz); (try have hz0 : w.heap.size < w1.heap.size := by omega); (try have hz1 : w.heap.size + 1 < w1.heap.size := by omega); (try have hz2 : w.heap.size + 2 < w1.heap.size := by omega); (try have hz3 : w.heap.size + 3 < w1.heap.size := by omega); (try have hcA := fun o => hc w.heap.size o (by first | omega | (simp; omega))); (try have hcB := fun o => hc (w.heap.size + 1) o (by first | omega | (simp; omega)))))
        refine bodyPost_ret (v := .tuple #[(Value.agg #[(Value.string ⟨((pu).scheme).toArray⟩), (Value.string ⟨(((pu).host).name).toArray⟩), (Value.bool ((pu).host).v4), (Value.int .u32 (((pu).host).addr : Int)), (Value.int .i64 (pu).port), (Value.string ⟨((pu).path).toArray⟩), (Value.bool (pu).hasQuery), (Value.string ⟨((pu).query).toArray⟩), (Value.string ⟨((pu).rest).toArray⟩)]), .bool true]) (by simp only [results, Tryz.results64]; go_simp) rfl ⟨by rw [hR.out] <;> rfl, ?_⟩
        (repeat' first | (with_reducible exact Below.refl _ _) | (with_reducible refine Below.setCell ?_ (by first | omega | (simp; done) | (simp; omega)) _) | (with_reducible refine Below.alloc ?_ (by first | omega | (simp; done) | (simp; omega)) _) | refine below_drewN ?_ _ | refine Below.drew ?_ | (refine below_thru (by assumption) ?_ (by first | omega | (simp; done) | (simp; omega))) | exact Below.refl _ _)
      | false =>
        rw [hn] at hnet
        replace hnet := Lib.hid hnet
        have hR : Hid (R = ({}, false)) := Lib.hid (by rw [hRR, if_pos (Or.inr hn)])
        clear hRR
        replace hn := Lib.hid hn
        replace he := Lib.hid he
        go_enter Tryz.func64, Tryz.ntmps64
        go_wp2_with (first | (go_at_call 82; refine ( hP.out _ (by (repeat' first | (with_reducible exact Below.refl _ _) | (with_reducible refine Below.setCell ?_ (by first | omega | (simp; done) | (simp; omega)) _) | (with_reducible refine Below.alloc ?_ (by first | omega | (simp; done) | (simp; omega)) _) | refine below_drewN ?_ _ | refine Below.drew ?_ | (refine below_thru (by assumption) ?_ (by first | omega | (simp; done) | (simp; omega))) | exact Below.refl _ _))).mono ?_; rintro e w1 ⟨rfl, hb⟩; obtain ⟨hc, hfz⟩ := bcell hb; have hz := hb.size; (try simp at hz); (try have hz0 : w.heap.size < w1.heap.size := by omega); (try have hz1 : w.heap.size + 1 < w1.heap.size := by omega); (try have hz2 : w.heap.size + 2 < w1.heap.size := by omega); (try have hz3 : w.heap.size + 3 < w1.heap.size := by omega); (try have hcA := fun o => hc w.heap.size o (by first | omega | (simp; omega))); (try have hcB := fun o => hc (w.heap.size + 1) o (by first | omega | (simp; omega)))) | (go_at_call 43; refine ( hnet.out _).mono ?_; rintro e w1 ⟨rfl, hb⟩; obtain ⟨hc, hfz⟩ := bcell hb; have hz := hb.size; (try simp at hz); (try have hz0 : w.heap.size < w1.heap.size := by omega); (try have hz1 : w.heap.size + 1 < w1.heap.size := by omega); (try have hz2 : w.heap.size + 2 < w1.heap.size := by omega); (try have hz3 : w.heap.size + 3 < w1.heap.size := by omega); (try have hcA := fun o => hc w.heap.size o (by first | omega | (simp; omega))); (try have hcB := fun o => hc (w.heap.size + 1) o (by first | omega | (simp; omega)))))
        refine bodyPost_ret (v := .tuple #[(Value.agg #[(Value.string ⟨#[]⟩), (Value.string ⟨#[]⟩), (Value.bool false), (Value.int .u32 0), (Value.int .i64 0), (Value.string ⟨#[]⟩), (Value.bool false), (Value.string ⟨#[]⟩), (Value.string ⟨#[]⟩)]), .bool false]) (by simp only [results, Tryz.results64]; go_simp) rfl ⟨by rw [hR.out] <;> rfl, ?_⟩
        (repeat' first | (with_reducible exact Below.refl _ _) | (with_reducible refine Below.setCell ?_ (by first | omega | (simp; done) | (simp; omega)) _) | (with_reducible refine Below.alloc ?_ (by first | omega | (simp; done) | (simp; omega)) _) | refine below_drewN ?_ _ | refine Below.drew ?_ | (refine below_thru (by assumption) ?_ (by first | omega | (simp; done) | (simp; omega))) | exact Below.refl _ _)
    · have he1 : (pe != 0) = true := by rw [bne_iff_ne]; exact he
      have hR : Hid (R = ({}, false)) := Lib.hid (by rw [hRR, if_pos (Or.inl he)])
      clear hRR
      replace he := Lib.hid he
      cases hn : Gl.isNet pu with
      | true =>
        rw [hn] at hnet
        replace hnet := Lib.hid hnet
        replace hn := Lib.hid hn
        go_enter Tryz.func64, Tryz.ntmps64
        go_wp2_with (first | (go_at_call 82; refine ( hP.out _ (by (repeat' first | (with_reducible exact Below.refl _ _) | (with_reducible refine Below.setCell ?_ (by first | omega | (simp; done) | (simp; omega)) _) | (with_reducible refine Below.alloc ?_ (by first | omega | (simp; done) | (simp; omega)) _) | refine below_drewN ?_ _ | refine Below.drew ?_ | (refine below_thru (by assumption) ?_ (by first | omega | (simp; done) | (simp; omega))) | exact Below.refl _ _))).mono ?_; rintro e w1 ⟨rfl, hb⟩; obtain ⟨hc, hfz⟩ := bcell hb; have hz := hb.size; (try simp at hz); (try have hz0 : w.heap.size < w1.heap.size := by omega); (try have hz1 : w.heap.size + 1 < w1.heap.size := by omega); (try have hz2 : w.heap.size + 2 < w1.heap.size := by omega); (try have hz3 : w.heap.size + 3 < w1.heap.size := by omega); (try have hcA := fun o => hc w.heap.size o (by first | omega | (simp; omega))); (try have hcB := fun o => hc (w.heap.size + 1) o (by first | omega | (simp; omega)))) | (go_at_call 43; refine ( hnet.out _).mono ?_; rintro e w1 ⟨rfl, hb⟩; obtain ⟨hc, hfz⟩ := bcell hb; have hz := hb.size; (try simp at hz); (try have hz0 : w.heap.size < w1.heap.size := by omega); (try have hz1 : w.heap.size + 1 < w1.heap.size := by omega); (try have hz2 : w.heap.size + 2 < w1.heap.size := by omega); (try have hz3 : w.heap.size + 3 < w1.heap.size := by omega); (try have hcA := fun o => hc w.heap.size o (by first | omega | (simp; omega))); (try have hcB := fun o => hc (w.heap.size + 1) o (by first | omega | (simp; omega)))))
        refine bodyPost_ret (v := .tuple #[(Value.agg #[(Value.string ⟨#[]⟩), (Value.string ⟨#[]⟩), (Value.bool false), (Value.int .u32 0), (Value.int .i64 0), (Value.string ⟨#[]⟩), (Value.bool false), (Value.string ⟨#[]⟩), (Value.string ⟨#[]⟩)]), .bool false]) (by simp only [results, Tryz.results64]; go_simp) rfl ⟨by rw [hR.out] <;> rfl, ?_⟩
        (repeat' first | (with_reducible exact Below.refl _ _) | (with_reducible refine Below.setCell ?_ (by first | omega | (simp; done) | (simp; omega)) _) | (with_reducible refine Below.alloc ?_ (by first | omega | (simp; done) | (simp; omega)) _) | refine below_drewN ?_ _ | refine Below.drew ?_ | (refine below_thru (by assumption) ?_ (by first | omega | (simp; done) | (simp; omega))) | exact Below.refl _ _)
      | false =>
        rw [hn] at hnet
        replace hnet := Lib.hid hnet
        replace hn := Lib.hid hn
        go_enter Tryz.func64, Tryz.ntmps64
        go_wp2_with (first | (go_at_call 82; refine ( hP.out _ (by (repeat' first | (with_reducible exact Below.refl _ _) | (with_reducible refine Below.setCell ?_ (by first | omega | (simp; done) | (simp; omega)) _) | (with_reducible refine Below.alloc ?_ (by first | omega | (simp; done) | (simp; omega)) _) | refine below_drewN ?_ _ | refine Below.drew ?_ | (refine below_thru (by assumption) ?_ (by first | omega | (simp; done) | (simp; omega))) | exact Below.refl _ _))).mono ?_; rintro e w1 ⟨rfl, hb⟩; obtain ⟨hc, hfz⟩ := bcell hb; have hz := hb.size; (try simp at hz); (try have hz0 : w.heap.size < w1.heap.size := by omega); (try have hz1 : w.heap.size + 1 < w1.heap.size := by omega); (try have hz2 : w.heap.size + 2 < w1.heap.size := by omega); (try have hz3 : w.heap.size + 3 < w1.heap.size := by omega); (try have hcA := fun o => hc w.heap.size o (by first | omega | (simp; omega))); (try have hcB := fun o => hc (w.heap.size + 1) o (by first | omega | (simp; omega)))) | (go_at_call 43; refine ( hnet.out _).mono ?_; rintro e w1 ⟨rfl, hb⟩; obtain ⟨hc, hfz⟩ := bcell hb; have hz := hb.size; (try simp at hz); (try have hz0 : w.heap.size < w1.heap.size := by omega); (try have hz1 : w.heap.size + 1 < w1.heap.size := by omega); (try have hz2 : w.heap.size + 2 < w1.heap.size := by omega); (try have hz3 : w.heap.size + 3 < w1.heap.size := by omega); (try have hcA := fun o => hc w.heap.size o (by first | omega | (simp; omega))); (try have hcB := fun o => hc (w.heap.size + 1) o (by first | omega | (simp; omega)))))
        refine bodyPost_ret (v := .tuple #[(Value.agg #[(Value.string ⟨#[]⟩), (Value.string ⟨#[]⟩), (Value.bool false), (Value.int .u32 0), (Value.int .i64 0), (Value.string ⟨#[]⟩), (Value.bool false), (Value.string ⟨#[]⟩), (Value.string ⟨#[]⟩)]), .bool false]) (by simp only [results, Tryz.results64]; go_simp) rfl ⟨by rw [hR.out] <;> rfl, ?_⟩
        (repeat' first | (with_reducible exact Below.refl _ _) | (with_reducible refine Below.setCell ?_ (by first | omega | (simp; done) | (simp; omega)) _) | (with_reducible refine Below.alloc ?_ (by first | omega | (simp; done) | (simp; omega)) _) | refine below_drewN ?_ _ | refine Below.drew ?_ | (refine below_thru (by assumption) ?_ (by first | omega | (simp; done) | (simp; omega))) | exact Below.refl _ _)
  · have hR : Hid (R = ({}, false)) := Lib.hid (by rw [hRR, if_pos hb])
    unfold Gl.blob at hb
    have hb1 : (u.scheme == ([98, 108, 111, 98] : List UInt8)) = false := by rw [beq_eq_false_iff_ne]; exact hb
    clear hRR hnet
    replace hb := Lib.hid hb
    go_enter Tryz.func64, Tryz.ntmps64
    go_wp2
    refine bodyPost_ret (v := .tuple #[(Value.agg #[(Value.string ⟨#[]⟩), (Value.string ⟨#[]⟩), (Value.bool false), (Value.int .u32 0), (Value.int .i64 0), (Value.string ⟨#[]⟩), (Value.bool false), (Value.string ⟨#[]⟩), (Value.string ⟨#[]⟩)]), .bool false]) (by simp only [results, Tryz.results64]; go_simp) rfl ⟨by rw [hR.out] <;> rfl, ?_⟩
    (repeat' first | (with_reducible exact Below.refl _ _) | (with_reducible refine Below.setCell ?_ (by first | omega | (simp; done) | (simp; omega)) _) | (with_reducible refine Below.alloc ?_ (by first | omega | (simp; done) | (simp; omega)) _) | refine below_drewN ?_ _ | refine Below.drew ?_ | (refine below_thru (by assumption) ?_ (by first | omega | (simp; done) | (simp; omega))) | exact Below.refl _ _)

set_option maxHeartbeats 2000000 in
set_option maxRecDepth 100000 in
theorem urlp_inner_of (u : Gl.URL) (w : World) (hP : ∀ W, Below w.heap.size w W → Calls Tryz.prog 29 #[(Value.string ⟨(u.rest).toArray⟩)] W (Ret W (.tuple #[(Value.agg #[(Value.string ⟨(((Gl.parse u.rest).1).scheme).toArray⟩), (Value.string ⟨((((Gl.parse u.rest).1).host).name).toArray⟩), (Value.bool (((Gl.parse u.rest).1).host).v4), (Value.int .u32 ((((Gl.parse u.rest).1).host).addr : Int)), (Value.int .i64 ((Gl.parse u.rest).1).port), (Value.string ⟨(((Gl.parse u.rest).1).path).toArray⟩), (Value.bool ((Gl.parse u.rest).1).hasQuery), (Value.string ⟨(((Gl.parse u.rest).1).query).toArray⟩), (Value.string ⟨(((Gl.parse u.rest).1).rest).toArray⟩)]), .int .i64 (Gl.parse u.rest).2]))) :
    Calls Tryz.prog 48 #[(Value.agg #[(Value.string ⟨((u).scheme).toArray⟩), (Value.string ⟨(((u).host).name).toArray⟩), (Value.bool ((u).host).v4), (Value.int .u32 (((u).host).addr : Int)), (Value.int .i64 (u).port), (Value.string ⟨((u).path).toArray⟩), (Value.bool (u).hasQuery), (Value.string ⟨((u).query).toArray⟩), (Value.string ⟨((u).rest).toArray⟩)])] w (Ret w (.tuple #[(Value.agg #[(Value.string ⟨(((Gl.innerOf u).1).scheme).toArray⟩), (Value.string ⟨((((Gl.innerOf u).1).host).name).toArray⟩), (Value.bool (((Gl.innerOf u).1).host).v4), (Value.int .u32 ((((Gl.innerOf u).1).host).addr : Int)), (Value.int .i64 ((Gl.innerOf u).1).port), (Value.string ⟨(((Gl.innerOf u).1).path).toArray⟩), (Value.bool ((Gl.innerOf u).1).hasQuery), (Value.string ⟨(((Gl.innerOf u).1).query).toArray⟩), (Value.string ⟨(((Gl.innerOf u).1).rest).toArray⟩)]), .bool (Gl.innerOf u).2])) := by
  have hRR : Gl.innerOf u = if u.scheme ≠ Gl.blob then ({}, false) else if (Gl.parse u.rest).2 ≠ 0 ∨ Gl.isNet (Gl.parse u.rest).1 = false then ({}, false) else ((Gl.parse u.rest).1, true) := rfl
  generalize Gl.innerOf u = R at *
  generalize Gl.parse u.rest = p at *
  obtain ⟨pu, pe⟩ := p
  simp only at hRR hP
  have hnet := fun W => urlp_net pu W
  replace hP := Lib.hid hP
  by_cases hb : u.scheme = Gl.blob
  · rw [if_neg (fun h => h hb)] at hRR
    unfold Gl.blob at hb
    have hb1 : (u.scheme == ([98, 108, 111, 98] : List UInt8)) = true := by rw [hb]; rfl
    replace hb := Lib.hid hb
    by_cases he : pe = 0
    · have he1 : (pe != 0) = false := by rw [he]; rfl
      cases hn : Gl.isNet pu with
      | true =>
        rw [hn] at hnet
        replace hnet := Lib.hid hnet
        have hR : Hid (R = (pu, true)) := Lib.hid (by rw [hRR, if_neg]; rintro (h | h); exact h he; rw [hn] at h; cases h)
        clear hRR
        replace hn := Lib.hid hn
        replace he := Lib.hid he
        go_enter Tryz.func48, Tryz.ntmps48
        go_wp2_with (first | (go_at_call 29; refine ( hP.out _ (by (repeat' first | (with_reducible exact Below.refl _ _) | (with_reducible refine Below.setCell ?_ (by first | omega | (simp; done) | (simp; omega)) _) | (with_reducible refine Below.alloc ?_ (by first | omega | (simp; done) | (simp; omega)) _) | refine below_drewN ?_ _ | refine Below.drew ?_ | (refine below_thru (by assumption) ?_ (by first | omega | (simp; done) | (simp; omega))) | exact Below.refl _ _))).mono ?_; rintro e w1 ⟨rfl, hb⟩; obtain ⟨hc, hfz⟩ := bcell hb; have hz := hb.size; (try simp at hz); (try have hz0 : w.heap.size < w1.heap.size := by omega); (try have hz1 : w.heap.size + 1 < w1.heap.size := by omega); (try have hz2 : w.heap.size + 2 < w1.heap.size := by omega); (try have hz3 : w.heap.size + 3 < w1.heap.size := by omega); (try have hcA := fun o => hc w.heap.size o (by first | omega | (simp; omega))); (try have hcB := fun o => hc (w.heap.size + 1) o (by first | omega | (simp; omega)))) | (go_at_call 30; refine ( hnet.out _).mono ?_; rintro e w1 ⟨rfl, hb⟩; obtain ⟨hc, hfz⟩ := bcell hb; have hz := hb.size; (try simp at hz); (try have hz0 : w.heap.size < w1.heap.size := by omega); (try have hz1 : w.heap.size + 1 < w1.heap.size := by omega); (try have hz2 : w.heap.size + 2 < w1.heap.size := by omega); (try have hz3 : w.heap.size + 3 < w1.heap.size := by omega); (try have hcA := fun o => hc w.heap.size o (by first | omega | (simp; omega))); (try have hcB := fun o => hc (w.heap.size + 1) o (by first | omega | (simp; omega)))))
        refine bodyPost_ret (v := .tuple #[(Value.agg #[(Value.string ⟨((pu).scheme).toArray⟩), (Value.string ⟨(((pu).host).name).toArray⟩), (Value.bool ((pu).host).v4), (Value.int .u32 (((pu).host).addr : Int)), (Value.int .i64 (pu).port), (Value.string ⟨((pu).path).toArray⟩), (Value.bool (pu).hasQuery), (Value.string ⟨((pu).query).toArray⟩), (Value.string ⟨((pu).rest).toArray⟩)]), .bool true]) (by simp only [results, Tryz.results48]; go_simp) rfl ⟨by rw [hR.out] <;> rfl, ?_⟩
        (repeat' first | (with_reducible exact Below.refl _ _) | (with_reducible refine Below.setCell ?_ (by first | omega | (simp; done) | (simp; omega)) _) | (with_reducible refine Below.alloc ?_ (by first | omega | (simp; done) | (simp; omega)) _) | refine below_drewN ?_ _ | refine Below.drew ?_ | (refine below_thru (by assumption) ?_ (by first | omega | (simp; done) | (simp; omega))) | exact Below.refl _ _)
      | false =>
        rw [hn] at hnet
        replace hnet := Lib.hid hnet
        have hR : Hid (R = ({}, false)) := Lib.hid (by rw [hRR, if_pos (Or.inr hn)])
        clear hRR
        replace hn := Lib.hid hn
        replace he := Lib.hid he
        go_enter Tryz.func48, Tryz.ntmps48
        go_wp2_with (first | (go_at_call 29; refine ( hP.out _ (by (repeat' first | (with_reducible exact Below.refl _ _) | (with_reducible refine Below.setCell ?_ (by first | omega | (simp; done) | (simp; omega)) _) | (with_reducible refine Below.alloc ?_ (by first | omega | (simp; done) | (simp; omega)) _) | refine below_drewN ?_ _ | refine Below.drew ?_ | (refine below_thru (by assumption) ?_ (by first | omega | (simp; done) | (simp; omega))) | exact Below.refl _ _))).mono ?_; rintro e w1 ⟨rfl, hb⟩; obtain ⟨hc, hfz⟩ := bcell hb; have hz := hb.size; (try simp at hz); (try have hz0 : w.heap.size < w1.heap.size := by omega); (try have hz1 : w.heap.size + 1 < w1.heap.size := by omega); (try have hz2 : w.heap.size + 2 < w1.heap.size := by omega); (try have hz3 : w.heap.size + 3 < w1.heap.size := by omega); (try have hcA := fun o => hc w.heap.size o (by first | omega | (simp; omega))); (try have hcB := fun o => hc (w.heap.size + 1) o (by first | omega | (simp; omega)))) | (go_at_call 30; refine ( hnet.out _).mono ?_; rintro e w1 ⟨rfl, hb⟩; obtain ⟨hc, hfz⟩ := bcell hb; have hz := hb.size; (try simp at hz); (try have hz0 : w.heap.size < w1.heap.size := by omega); (try have hz1 : w.heap.size + 1 < w1.heap.size := by omega); (try have hz2 : w.heap.size + 2 < w1.heap.size := by omega); (try have hz3 : w.heap.size + 3 < w1.heap.size := by omega); (try have hcA := fun o => hc w.heap.size o (by first | omega | (simp; omega))); (try have hcB := fun o => hc (w.heap.size + 1) o (by first | omega | (simp; omega)))))
        refine bodyPost_ret (v := .tuple #[(Value.agg #[(Value.string ⟨#[]⟩), (Value.string ⟨#[]⟩), (Value.bool false), (Value.int .u32 0), (Value.int .i64 0), (Value.string ⟨#[]⟩), (Value.bool false), (Value.string ⟨#[]⟩), (Value.string ⟨#[]⟩)]), .bool false]) (by simp only [results, Tryz.results48]; go_simp) rfl ⟨by rw [hR.out] <;> rfl, ?_⟩
        (repeat' first | (with_reducible exact Below.refl _ _) | (with_reducible refine Below.setCell ?_ (by first | omega | (simp; done) | (simp; omega)) _) | (with_reducible refine Below.alloc ?_ (by first | omega | (simp; done) | (simp; omega)) _) | refine below_drewN ?_ _ | refine Below.drew ?_ | (refine below_thru (by assumption) ?_ (by first | omega | (simp; done) | (simp; omega))) | exact Below.refl _ _)
    · have he1 : (pe != 0) = true := by rw [bne_iff_ne]; exact he
      have hR : Hid (R = ({}, false)) := Lib.hid (by rw [hRR, if_pos (Or.inl he)])
      clear hRR
      replace he := Lib.hid he
      cases hn : Gl.isNet pu with
      | true =>
        rw [hn] at hnet
        replace hnet := Lib.hid hnet
        replace hn := Lib.hid hn
        go_enter Tryz.func48, Tryz.ntmps48
        go_wp2_with (first | (go_at_call 29; refine ( hP.out _ (by (repeat' first | (with_reducible exact Below.refl _ _) | (with_reducible refine Below.setCell ?_ (by first | omega | (simp; done) | (simp; omega)) _) | (with_reducible refine Below.alloc ?_ (by first | omega | (simp; done) | (simp; omega)) _) | refine below_drewN ?_ _ | refine Below.drew ?_ | (refine below_thru (by assumption) ?_ (by first | omega | (simp; done) | (simp; omega))) | exact Below.refl _ _))).mono ?_; rintro e w1 ⟨rfl, hb⟩; obtain ⟨hc, hfz⟩ := bcell hb; have hz := hb.size; (try simp at hz); (try have hz0 : w.heap.size < w1.heap.size := by omega); (try have hz1 : w.heap.size + 1 < w1.heap.size := by omega); (try have hz2 : w.heap.size + 2 < w1.heap.size := by omega); (try have hz3 : w.heap.size + 3 < w1.heap.size := by omega); (try have hcA := fun o => hc w.heap.size o (by first | omega | (simp; omega))); (try have hcB := fun o => hc (w.heap.size + 1) o (by first | omega | (simp; omega)))) | (go_at_call 30; refine ( hnet.out _).mono ?_; rintro e w1 ⟨rfl, hb⟩; obtain ⟨hc, hfz⟩ := bcell hb; have hz := hb.size; (try simp at hz); (try have hz0 : w.heap.size < w1.heap.size := by omega); (try have hz1 : w.heap.size + 1 < w1.heap.size := by omega); (try have hz2 : w.heap.size + 2 < w1.heap.size := by omega); (try have hz3 : w.heap.size + 3 < w1.heap.size := by omega); (try have hcA := fun o => hc w.heap.size o (by first | omega | (simp; omega))); (try have hcB := fun o => hc (w.heap.size + 1) o (by first | omega | (simp; omega)))))
        refine bodyPost_ret (v := .tuple #[(Value.agg #[(Value.string ⟨#[]⟩), (Value.string ⟨#[]⟩), (Value.bool false), (Value.int .u32 0), (Value.int .i64 0), (Value.string ⟨#[]⟩), (Value.bool false), (Value.string ⟨#[]⟩), (Value.string ⟨#[]⟩)]), .bool false]) (by simp only [results, Tryz.results48]; go_simp) rfl ⟨by rw [hR.out] <;> rfl, ?_⟩
        (repeat' first | (with_reducible exact Below.refl _ _) | (with_reducible refine Below.setCell ?_ (by first | omega | (simp; done) | (simp; omega)) _) | (with_reducible refine Below.alloc ?_ (by first | omega | (simp; done) | (simp; omega)) _) | refine below_drewN ?_ _ | refine Below.drew ?_ | (refine below_thru (by assumption) ?_ (by first | omega | (simp; done) | (simp; omega))) | exact Below.refl _ _)
      | false =>
        rw [hn] at hnet
        replace hnet := Lib.hid hnet
        replace hn := Lib.hid hn
        go_enter Tryz.func48, Tryz.ntmps48
        go_wp2_with (first | (go_at_call 29; refine ( hP.out _ (by (repeat' first | (with_reducible exact Below.refl _ _) | (with_reducible refine Below.setCell ?_ (by first | omega | (simp; done) | (simp; omega)) _) | (with_reducible refine Below.alloc ?_ (by first | omega | (simp; done) | (simp; omega)) _) | refine below_drewN ?_ _ | refine Below.drew ?_ | (refine below_thru (by assumption) ?_ (by first | omega | (simp; done) | (simp; omega))) | exact Below.refl _ _))).mono ?_; rintro e w1 ⟨rfl, hb⟩; obtain ⟨hc, hfz⟩ := bcell hb; have hz := hb.size; (try simp at hz); (try have hz0 : w.heap.size < w1.heap.size := by omega); (try have hz1 : w.heap.size + 1 < w1.heap.size := by omega); (try have hz2 : w.heap.size + 2 < w1.heap.size := by omega); (try have hz3 : w.heap.size + 3 < w1.heap.size := by omega); (try have hcA := fun o => hc w.heap.size o (by first | omega | (simp; omega))); (try have hcB := fun o => hc (w.heap.size + 1) o (by first | omega | (simp; omega)))) | (go_at_call 30; refine ( hnet.out _).mono ?_; rintro e w1 ⟨rfl, hb⟩; obtain ⟨hc, hfz⟩ := bcell hb; have hz := hb.size; (try simp at hz); (try have hz0 : w.heap.size < w1.heap.size := by omega); (try have hz1 : w.heap.size + 1 < w1.heap.size := by omega); (try have hz2 : w.heap.size + 2 < w1.heap.size := by omega); (try have hz3 : w.heap.size + 3 < w1.heap.size := by omega); (try have hcA := fun o => hc w.heap.size o (by first | omega | (simp; omega))); (try have hcB := fun o => hc (w.heap.size + 1) o (by first | omega | (simp; omega)))))
        refine bodyPost_ret (v := .tuple #[(Value.agg #[(Value.string ⟨#[]⟩), (Value.string ⟨#[]⟩), (Value.bool false), (Value.int .u32 0), (Value.int .i64 0), (Value.string ⟨#[]⟩), (Value.bool false), (Value.string ⟨#[]⟩), (Value.string ⟨#[]⟩)]), .bool false]) (by simp only [results, Tryz.results48]; go_simp) rfl ⟨by rw [hR.out] <;> rfl, ?_⟩
        (repeat' first | (with_reducible exact Below.refl _ _) | (with_reducible refine Below.setCell ?_ (by first | omega | (simp; done) | (simp; omega)) _) | (with_reducible refine Below.alloc ?_ (by first | omega | (simp; done) | (simp; omega)) _) | refine below_drewN ?_ _ | refine Below.drew ?_ | (refine below_thru (by assumption) ?_ (by first | omega | (simp; done) | (simp; omega))) | exact Below.refl _ _)
  · have hR : Hid (R = ({}, false)) := Lib.hid (by rw [hRR, if_pos hb])
    unfold Gl.blob at hb
    have hb1 : (u.scheme == ([98, 108, 111, 98] : List UInt8)) = false := by rw [beq_eq_false_iff_ne]; exact hb
    clear hRR hnet
    replace hb := Lib.hid hb
    go_enter Tryz.func48, Tryz.ntmps48
    go_wp2
    refine bodyPost_ret (v := .tuple #[(Value.agg #[(Value.string ⟨#[]⟩), (Value.string ⟨#[]⟩), (Value.bool false), (Value.int .u32 0), (Value.int .i64 0), (Value.string ⟨#[]⟩), (Value.bool false), (Value.string ⟨#[]⟩), (Value.string ⟨#[]⟩)]), .bool false]) (by simp only [results, Tryz.results48]; go_simp) rfl ⟨by rw [hR.out] <;> rfl, ?_⟩
    (repeat' first | (with_reducible exact Below.refl _ _) | (with_reducible refine Below.setCell ?_ (by first | omega | (simp; done) | (simp; omega)) _) | (with_reducible refine Below.alloc ?_ (by first | omega | (simp; done) | (simp; omega)) _) | refine below_drewN ?_ _ | refine Below.drew ?_ | (refine below_thru (by assumption) ?_ (by first | omega | (simp; done) | (simp; omega))) | exact Below.refl _ _)

end Go.Proofs.YtkfoogmncokjnaaGreatDoor
