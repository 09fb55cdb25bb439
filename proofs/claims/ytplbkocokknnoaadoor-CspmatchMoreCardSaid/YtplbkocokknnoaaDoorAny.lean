/- cspmatch: is an origin what one of some texts means? -/
import Derived.Test.YtplbkocokknnoaaDoorMatch2
import Derived.Test.YtplbkocokknnoaaDoorSrcParse
import Derived.WalkMore
import Derived.Deep.RegionHeld3
import Derived.Test.YtplbkocokknnoaaDoorText
namespace Go.Proofs.YtplbkocokknnoaaDoor
open Go.RowKit
attribute [local irreducible] Calls
set_option maxRecDepth 100000 in
set_option maxHeartbeats 1000000 in
theorem csp_match (s : Gl.Source) (o self : Gl.Origin) (w : World) (hE : Env w) (ha : o.host.addr < 4294967296) (hn : o.host.name.length ≤ 2147483647) : Calls Tryd.prog 36 #[(Value.agg #[(Value.int .i64 (s).kind), (Value.string ⟨((s).scheme).toArray⟩), (Value.string ⟨((s).host).toArray⟩), (Value.int .i64 (s).port)]), (Value.agg #[(Value.bool (o).opaq), (Value.int .i64 (o).id), (Value.string ⟨((o).scheme).toArray⟩), (Value.string ⟨(((o).host).name).toArray⟩), (Value.bool ((o).host).v4), (Value.int .u32 (((o).host).addr : Int)), (Value.int .i64 (o).port)]), (Value.agg #[(Value.bool (self).opaq), (Value.int .i64 (self).id), (Value.string ⟨((self).scheme).toArray⟩), (Value.string ⟨(((self).host).name).toArray⟩), (Value.bool ((self).host).v4), (Value.int .u32 (((self).host).addr : Int)), (Value.int .i64 (self).port)])] w (Ret w (.bool (Gl.matchS s o self))) := by
  have hR : Gl.matchS s o self = if o.opaq = true then false else if s.kind = 2 then true else if s.kind = 3 then Gl.together s.scheme o.scheme else if s.kind = 1 then Gl.selfM o self else if s.kind = 4 then Gl.fitsM s o self && Gl.portM s o && Gl.named s.host (Gl.hostText o.host) else false := rfl
  by_cases hq : o.opaq = true
  · rw [hR, if_pos hq]
    obtain ⟨q, i, t, h, p⟩ := o
    simp only at hq ⊢
    subst hq
    clear hR
    go_enter Tryd.func36, Tryd.ntmps36
    go_wp2
    go_ret
    exact ⟨rfl, by (repeat' first | (with_reducible exact Below.refl _ _) | (with_reducible refine Below.setCell ?_ (by first | omega | (simp; done) | (simp; omega)) _) | (with_reducible refine Below.alloc ?_ (by first | omega | (simp; done) | (simp; omega)) _) | refine below_drewN ?_ _ | refine Below.drew ?_ | (refine below_thru (by assumption) ?_ (by first | omega | (simp; done) | (simp; omega))) | exact Below.refl _ _)⟩
  · replace hq : o.opaq = false := by simpa using hq
    rw [if_neg (by rw [hq]; simp)] at hR
    by_cases k1 : s.kind = 1
    · rw [hR, if_neg (by omega), if_neg (by omega), if_pos k1]; exact csp_match1 s o self w k1 hq
    by_cases k4 : s.kind = 4
    · rw [hR, if_neg (by omega), if_neg (by omega), if_neg (by omega), if_pos k4]; exact csp_match4 s o self w hE k4 hq ha hn
    by_cases k2 : s.kind = 2
    · rw [hR, if_pos k2]
      clear hR
      obtain ⟨kind, sc, sh, sp⟩ := s
      obtain ⟨q, i, t, h, p⟩ := o
      simp only at hq k2 ⊢
      subst hq k2
      go_enter Tryd.func36, Tryd.ntmps36
      go_wp2
      go_ret
      exact ⟨rfl, by (repeat' first | (with_reducible exact Below.refl _ _) | (with_reducible refine Below.setCell ?_ (by first | omega | (simp; done) | (simp; omega)) _) | (with_reducible refine Below.alloc ?_ (by first | omega | (simp; done) | (simp; omega)) _) | refine below_drewN ?_ _ | refine Below.drew ?_ | (refine below_thru (by assumption) ?_ (by first | omega | (simp; done) | (simp; omega))) | exact Below.refl _ _)⟩
    by_cases k3 : s.kind = 3
    · rw [hR, if_neg (by omega), if_pos k3]
      clear hR
      have htg := fun W => csp_together s.scheme o.scheme W
      generalize Gl.together s.scheme o.scheme = tg at *
      obtain ⟨kind, sc, sh, sp⟩ := s
      obtain ⟨q, i, t, h, p⟩ := o
      simp only at hq k3 htg ⊢
      subst hq k3
      replace htg := Lib.hid htg
      go_enter Tryd.func36, Tryd.ntmps36
      go_wp2_with (go_at_call 52; refine ( htg.out _).mono ?_; rintro e w1 ⟨rfl, rfl⟩)
      go_ret
      exact ⟨rfl, by (repeat' first | (with_reducible exact Below.refl _ _) | (with_reducible refine Below.setCell ?_ (by first | omega | (simp; done) | (simp; omega)) _) | (with_reducible refine Below.alloc ?_ (by first | omega | (simp; done) | (simp; omega)) _) | refine below_drewN ?_ _ | refine Below.drew ?_ | (refine below_thru (by assumption) ?_ (by first | omega | (simp; done) | (simp; omega))) | exact Below.refl _ _)⟩
    · rw [hR, if_neg k2, if_neg k3, if_neg k1, if_neg k4]
      clear hR
      obtain ⟨kind, sc, sh, sp⟩ := s
      obtain ⟨q, i, t, h, p⟩ := o
      simp only at hq k1 k2 k3 k4 ⊢
      subst hq
      have j1 : (kind == 1) = false := by simpa using k1
      have j2 : (kind == 2) = false := by simpa using k2
      have j3 : (kind == 3) = false := by simpa using k3
      have j4 : (kind == 4) = false := by simpa using k4
      clear k1 k2 k3 k4
      go_enter Tryd.func36, Tryd.ntmps36
      go_wp2
      go_ret
      exact ⟨rfl, by (repeat' first | (with_reducible exact Below.refl _ _) | (with_reducible refine Below.setCell ?_ (by first | omega | (simp; done) | (simp; omega)) _) | (with_reducible refine Below.alloc ?_ (by first | omega | (simp; done) | (simp; omega)) _) | refine below_drewN ?_ _ | refine Below.drew ?_ | (refine below_thru (by assumption) ?_ (by first | omega | (simp; done) | (simp; omega))) | exact Below.refl _ _)⟩
set_option maxRecDepth 100000 in
set_option maxHeartbeats 1000000 in
theorem csp_any (v : Value) (L : List (List UInt8)) (o self : Gl.Origin) (w : World) (hE : Env w) (hv : Strs w w.heap.size v L) (hl : L.length ≤ 281474976710656) (hsh : ∀ s ∈ L, s.length ≤ 4294967280) (ha : o.host.addr < 4294967296) (hn : o.host.name.length ≤ 2147483647) :
    Calls Tryd.prog 35 #[v, (Value.agg #[(Value.bool (o).opaq), (Value.int .i64 (o).id), (Value.string ⟨((o).scheme).toArray⟩), (Value.string ⟨(((o).host).name).toArray⟩), (Value.bool ((o).host).v4), (Value.int .u32 (((o).host).addr : Int)), (Value.int .i64 (o).port)]), (Value.agg #[(Value.bool (self).opaq), (Value.int .i64 (self).id), (Value.string ⟨((self).scheme).toArray⟩), (Value.string ⟨(((self).host).name).toArray⟩), (Value.bool ((self).host).v4), (Value.int .u32 (((self).host).addr : Int)), (Value.int .i64 (self).port)])] w (Ret w (.bool (Gl.anyS L o self))) := by
  have H := Lib.hid hv
  replace hsh := Lib.hid hsh
  generalize hR : Gl.anyS L o self = R
  replace hR := Lib.hid hR
  obtain ⟨A, c, rfl, h1, h2, h3⟩ := hv
  clear h3
  go_enter Tryd.func35, Tryd.ntmps35
  go_wp2_with fail
  go_step3
  go_wp2_with fail
  go_step3
  go_wp2_with fail
  generalize hW0 : ((w.alloc (Obj.cells #[(Value.bool (o).opaq), (Value.int .i64 (o).id), (Value.string ⟨((o).scheme).toArray⟩), (Value.string ⟨(((o).host).name).toArray⟩), (Value.bool ((o).host).v4), (Value.int .u32 (((o).host).addr : Int)), (Value.int .i64 (o).port)] 35)).alloc (Obj.cells #[(Value.bool (self).opaq), (Value.int .i64 (self).id), (Value.string ⟨((self).scheme).toArray⟩), (Value.string ⟨(((self).host).name).toArray⟩), (Value.bool ((self).host).v4), (Value.int .u32 (((self).host).addr : Int)), (Value.int .i64 (self).port)] 35)) = W0
  have hw0 : Below w.heap.size w W0 := by rw [← hW0]; (repeat' first | (with_reducible exact Below.refl _ _) | (with_reducible refine Below.setCell ?_ (by first | omega | (simp; done) | (simp; omega)) _) | (with_reducible refine Below.alloc ?_ (by first | omega | (simp; done) | (simp; omega)) _) | refine below_drewN ?_ _ | refine Below.drew ?_ | (refine below_thru (by assumption) ?_ (by first | omega | (simp; done) | (simp; omega))) | exact Below.refl _ _)
  have hBA : Blk W0 (w.heap.size) 35 #[(Value.bool (o).opaq), (Value.int .i64 (o).id), (Value.string ⟨((o).scheme).toArray⟩), (Value.string ⟨(((o).host).name).toArray⟩), (Value.bool ((o).host).v4), (Value.int .u32 (((o).host).addr : Int)), (Value.int .i64 (o).port)] := by rw [← hW0]; exact (Blk.alloc (Blk.new _ _ _) _)
  have hBB : Blk W0 (w.heap.size + 1) 35 #[(Value.bool (self).opaq), (Value.int .i64 (self).id), (Value.string ⟨((self).scheme).toArray⟩), (Value.string ⟨(((self).host).name).toArray⟩), (Value.bool ((self).host).v4), (Value.int .u32 (((self).host).addr : Int)), (Value.int .i64 (self).port)] := by rw [← hW0]; exact (by have := Blk.new (w.alloc (Obj.cells #[(Value.bool (o).opaq), (Value.int .i64 (o).id), (Value.string ⟨((o).scheme).toArray⟩), (Value.string ⟨(((o).host).name).toArray⟩), (Value.bool ((o).host).v4), (Value.int .u32 (((o).host).addr : Int)), (Value.int .i64 (o).port)] 35)) 35 #[(Value.bool (self).opaq), (Value.int .i64 (self).id), (Value.string ⟨((self).scheme).toArray⟩), (Value.string ⟨(((self).host).name).toArray⟩), (Value.bool ((self).host).v4), (Value.int .u32 (((self).host).addr : Int)), (Value.int .i64 (self).port)]; simpa [World.size_alloc] using this)
  clear hW0
  go_loopw [7, 12] (fun f i wr => ∃ k : Nat, k ≤ L.length ∧ f = .bool false ∧ i = .int .i64 k ∧ Below w.heap.size w wr ∧ Blk wr (w.heap.size) 35 #[(Value.bool (o).opaq), (Value.int .i64 (o).id), (Value.string ⟨((o).scheme).toArray⟩), (Value.string ⟨(((o).host).name).toArray⟩), (Value.bool ((o).host).v4), (Value.int .u32 (((o).host).addr : Int)), (Value.int .i64 (o).port)] ∧ Blk wr (w.heap.size + 1) 35 #[(Value.bool (self).opaq), (Value.int .i64 (self).id), (Value.string ⟨((self).scheme).toArray⟩), (Value.string ⟨(((self).host).name).toArray⟩), (Value.bool ((self).host).v4), (Value.int .u32 (((self).host).addr : Int)), (Value.int .i64 (self).port)] ∧ Hid (R = Gl.anyS (L.drop k) o self)) (fun _ i _ => L.length - (intOf i).toNat)
  case atStart => exact ⟨0, Nat.zero_le _, rfl, rfl, hw0, hBA, hBB, Lib.hid hR.out.symm⟩
  case round =>
    obtain ⟨k, hk, rfl, rfl, hw1, hB1, hB2, hr⟩ := hrel
    clear hBA hBB hw0
    by_cases hlt : k < L.length
    · obtain ⟨sb, so, sd, he, hsB, hcell⟩ := H.out.cells k hlt
      injection he with he1 he2 he3
      subst he1 he3
      have hck := (hw1.cell (p := ⟨sb, so + k, none⟩) hsB).trans (hcell k hlt)
      clear hcell
      have hp := fun (W : World) (hW : Below w.heap.size w W) => csp_parse L[k] W (hE.below hW) (hsh.out _ (List.getElem_mem hlt))
      have hm := fun (W : World) (hW : Below w.heap.size w W) => csp_match (Gl.sourceOf L[k]) o self W (hE.below hW) ha hn
      rw [drop_consL hlt] at hr
      have hr2 : R = (Gl.matchS (Gl.sourceOf L[k]) o self || Gl.anyS (L.drop (k + 1)) o self) := by rw [hr.out]; rfl
      generalize Gl.matchS (Gl.sourceOf L[k]) o self = m at *
      generalize Gl.sourceOf L[k] = src at *
      generalize L[k] = x at *
      clear hr
      replace hr2 := Lib.hid hr2
      replace hp := Lib.hid hp
      replace hm := Lib.hid hm
      have h1l := hB1.lt
      have h1c := hB1.cell
      have h1f := hB1.frozen
      have h2l := hB2.lt
      have h2c := hB2.cell
      have h2f := hB2.frozen
      cases m
      · go_upto_region 5 with fail
        go_region_held3 (fun W => Below w.heap.size w W ∧ w.heap.size < W.heap.size ∧ w.heap.size + 1 < W.heap.size ∧ (∀ n0, W.cell? ⟨w.heap.size, n0, none⟩ = (#[(Value.bool (o).opaq), (Value.int .i64 (o).id), (Value.string ⟨((o).scheme).toArray⟩), (Value.string ⟨(((o).host).name).toArray⟩), (Value.bool ((o).host).v4), (Value.int .u32 (((o).host).addr : Int)), (Value.int .i64 (o).port)] : Array Value)[n0]?) ∧ (∀ n0, W.cell? ⟨w.heap.size + 1, n0, none⟩ = (#[(Value.bool (self).opaq), (Value.int .i64 (self).id), (Value.string ⟨((self).scheme).toArray⟩), (Value.string ⟨(((self).host).name).toArray⟩), (Value.bool ((self).host).v4), (Value.int .u32 (((self).host).addr : Int)), (Value.int .i64 (self).port)] : Array Value)[n0]?)) ((refine ⟨by (repeat' first | (with_reducible exact Below.refl _ _) | (with_reducible refine Below.setCell ?_ (by first | omega | (simp; done) | (simp; omega)) _) | (with_reducible refine Below.alloc ?_ (by first | omega | (simp; done) | (simp; omega)) _) | refine below_drewN ?_ _ | refine Below.drew ?_ | (refine below_thru (by assumption) ?_ (by first | omega | (simp; done) | (simp; omega))) | exact Below.refl _ _), ?_⟩; simp [*]))
          (first | (go_at_call 34; refine ( hp.out _ (by (repeat' first | (with_reducible exact Below.refl _ _) | (with_reducible refine Below.setCell ?_ (by first | omega | (simp; done) | (simp; omega)) _) | (with_reducible refine Below.alloc ?_ (by first | omega | (simp; done) | (simp; omega)) _) | refine below_drewN ?_ _ | refine Below.drew ?_ | (refine below_thru (by assumption) ?_ (by first | omega | (simp; done) | (simp; omega))) | exact Below.refl _ _))).mono ?_; rintro e w1 ⟨rfl, hb⟩; obtain ⟨hc, hfz⟩ := bcell hb; have hz := hb.size; (try simp at hz); (try have hz0 : w.heap.size < w1.heap.size := by omega); (try have hz1 : w.heap.size + 1 < w1.heap.size := by omega); (try have hz2 : w.heap.size + 2 < w1.heap.size := by omega); (try have hz3 : w.heap.size + 3 < w1.heap.size := by omega); (try have hcA := fun o => hc w.heap.size o (by first | omega | (simp; omega))); (try have hcB := fun o => hc (w.heap.size + 1) o (by first | omega | (simp; omega)))) | (go_at_call 36; refine ( hm.out _ (by (repeat' first | (with_reducible exact Below.refl _ _) | (with_reducible refine Below.setCell ?_ (by first | omega | (simp; done) | (simp; omega)) _) | (with_reducible refine Below.alloc ?_ (by first | omega | (simp; done) | (simp; omega)) _) | refine below_drewN ?_ _ | refine Below.drew ?_ | (refine below_thru (by assumption) ?_ (by first | omega | (simp; done) | (simp; omega))) | exact Below.refl _ _))).mono ?_; rintro e w1 ⟨rfl, hb⟩; obtain ⟨hc, hfz⟩ := bcell hb; have hz := hb.size; (try simp at hz); (try have hz0 : w.heap.size < w1.heap.size := by omega); (try have hz1 : w.heap.size + 1 < w1.heap.size := by omega); (try have hz2 : w.heap.size + 2 < w1.heap.size := by omega); (try have hz3 : w.heap.size + 3 < w1.heap.size := by omega); (try have hcA := fun o => hc w.heap.size o (by first | omega | (simp; omega))); (try have hcB := fun o => hc (w.heap.size + 1) o (by first | omega | (simp; omega)))))
        all_goals go_wp2_with fail
        all_goals go_roundw
        case rel => exact ⟨k + 1, by omega, rfl, by go_num, by (repeat' first | (with_reducible exact Below.refl _ _) | (with_reducible refine Below.setCell ?_ (by first | omega | (simp; done) | (simp; omega)) _) | (with_reducible refine Below.alloc ?_ (by first | omega | (simp; done) | (simp; omega)) _) | refine below_drewN ?_ _ | refine Below.drew ?_ | (refine below_thru (by assumption) ?_ (by first | omega | (simp; done) | (simp; omega))) | exact Below.refl _ _), by (repeat' first | (with_reducible assumption) | (with_reducible exact Blk.new _ _ _) | (with_reducible refine Blk.drew_ ?_) | (with_reducible refine Blk.alloc ?_ _) | (refine Blk.below ?_ (by assumption) (by first | omega | (simp; done) | (simp; omega)))), by (repeat' first | (with_reducible assumption) | (with_reducible exact Blk.new _ _ _) | (with_reducible refine Blk.drew_ ?_) | (with_reducible refine Blk.alloc ?_ _) | (refine Blk.below ?_ (by assumption) (by first | omega | (simp; done) | (simp; omega)))), Lib.hid (by rw [hr2.out]; rfl)⟩
        case measure => simp [intOf]; omega
      · go_upto_region 5 with fail
        go_region_held3 (fun W => Below w.heap.size w W ∧ w.heap.size < W.heap.size ∧ w.heap.size + 1 < W.heap.size ∧ (∀ n0, W.cell? ⟨w.heap.size, n0, none⟩ = (#[(Value.bool (o).opaq), (Value.int .i64 (o).id), (Value.string ⟨((o).scheme).toArray⟩), (Value.string ⟨(((o).host).name).toArray⟩), (Value.bool ((o).host).v4), (Value.int .u32 (((o).host).addr : Int)), (Value.int .i64 (o).port)] : Array Value)[n0]?) ∧ (∀ n0, W.cell? ⟨w.heap.size + 1, n0, none⟩ = (#[(Value.bool (self).opaq), (Value.int .i64 (self).id), (Value.string ⟨((self).scheme).toArray⟩), (Value.string ⟨(((self).host).name).toArray⟩), (Value.bool ((self).host).v4), (Value.int .u32 (((self).host).addr : Int)), (Value.int .i64 (self).port)] : Array Value)[n0]?)) ((refine ⟨by (repeat' first | (with_reducible exact Below.refl _ _) | (with_reducible refine Below.setCell ?_ (by first | omega | (simp; done) | (simp; omega)) _) | (with_reducible refine Below.alloc ?_ (by first | omega | (simp; done) | (simp; omega)) _) | refine below_drewN ?_ _ | refine Below.drew ?_ | (refine below_thru (by assumption) ?_ (by first | omega | (simp; done) | (simp; omega))) | exact Below.refl _ _), ?_⟩; simp [*]))
          (first | (go_at_call 34; refine ( hp.out _ (by (repeat' first | (with_reducible exact Below.refl _ _) | (with_reducible refine Below.setCell ?_ (by first | omega | (simp; done) | (simp; omega)) _) | (with_reducible refine Below.alloc ?_ (by first | omega | (simp; done) | (simp; omega)) _) | refine below_drewN ?_ _ | refine Below.drew ?_ | (refine below_thru (by assumption) ?_ (by first | omega | (simp; done) | (simp; omega))) | exact Below.refl _ _))).mono ?_; rintro e w1 ⟨rfl, hb⟩; obtain ⟨hc, hfz⟩ := bcell hb; have hz := hb.size; (try simp at hz); (try have hz0 : w.heap.size < w1.heap.size := by omega); (try have hz1 : w.heap.size + 1 < w1.heap.size := by omega); (try have hz2 : w.heap.size + 2 < w1.heap.size := by omega); (try have hz3 : w.heap.size + 3 < w1.heap.size := by omega); (try have hcA := fun o => hc w.heap.size o (by first | omega | (simp; omega))); (try have hcB := fun o => hc (w.heap.size + 1) o (by first | omega | (simp; omega)))) | (go_at_call 36; refine ( hm.out _ (by (repeat' first | (with_reducible exact Below.refl _ _) | (with_reducible refine Below.setCell ?_ (by first | omega | (simp; done) | (simp; omega)) _) | (with_reducible refine Below.alloc ?_ (by first | omega | (simp; done) | (simp; omega)) _) | refine below_drewN ?_ _ | refine Below.drew ?_ | (refine below_thru (by assumption) ?_ (by first | omega | (simp; done) | (simp; omega))) | exact Below.refl _ _))).mono ?_; rintro e w1 ⟨rfl, hb⟩; obtain ⟨hc, hfz⟩ := bcell hb; have hz := hb.size; (try simp at hz); (try have hz0 : w.heap.size < w1.heap.size := by omega); (try have hz1 : w.heap.size + 1 < w1.heap.size := by omega); (try have hz2 : w.heap.size + 2 < w1.heap.size := by omega); (try have hz3 : w.heap.size + 3 < w1.heap.size := by omega); (try have hcA := fun o => hc w.heap.size o (by first | omega | (simp; omega))); (try have hcB := fun o => hc (w.heap.size + 1) o (by first | omega | (simp; omega)))))
        all_goals go_wp2_with fail
        all_goals go_ret
        all_goals exact ⟨by rw [hr2.out] <;> rfl, by (repeat' first | (with_reducible exact Below.refl _ _) | (with_reducible refine Below.setCell ?_ (by first | omega | (simp; done) | (simp; omega)) _) | (with_reducible refine Below.alloc ?_ (by first | omega | (simp; done) | (simp; omega)) _) | refine below_drewN ?_ _ | refine Below.drew ?_ | (refine below_thru (by assumption) ?_ (by first | omega | (simp; done) | (simp; omega))) | exact Below.refl _ _)⟩
    · have hf : Hid (R = false) := Lib.hid (by rw [hr.out, List.drop_eq_nil_of_le (by omega)]; rfl)
      clear hr
      go_wp2_with fail
      go_ret
      exact ⟨by rw [hf.out] <;> rfl, by (repeat' first | (with_reducible exact Below.refl _ _) | (with_reducible refine Below.setCell ?_ (by first | omega | (simp; done) | (simp; omega)) _) | (with_reducible refine Below.alloc ?_ (by first | omega | (simp; done) | (simp; omega)) _) | refine below_drewN ?_ _ | refine Below.drew ?_ | (refine below_thru (by assumption) ?_ (by first | omega | (simp; done) | (simp; omega))) | exact Below.refl _ _)⟩
end Go.Proofs.YtplbkocokknnoaaDoor
