/- The law OriginClasses, walked. -/
import Derived.Test.YthmgcnaoionmoaaDoorAwake4
import Derived.Test.YthmgcnaoionmoaaDoorPlain3b
import Derived.Deep.RegionHeld3

namespace Go.Proofs.YthmgcnaoionmoaaDoor
open Go.RowKit
attribute [local irreducible] Calls

theorem same_iff (a b : Gl.Origin) : Gl.originSame a b = true ↔ bareO a = bareO b := by
  obtain ⟨q, i, s, h, p⟩ := a
  obtain ⟨r, j, t, g, o⟩ := b
  unfold Gl.originSame bareO
  cases q <;> cases r <;> simp [and_assoc]
theorem same_symm (a b : Gl.Origin) : Gl.originSame b a = Gl.originSame a b := by
  rw [Bool.eq_iff_iff, same_iff, same_iff]
  exact ⟨Eq.symm, Eq.symm⟩
theorem same_trans (a b c : Gl.Origin) (h : Gl.originSame a b = true) : Gl.originSame b c = Gl.originSame a c := by
  rw [same_iff] at h
  rw [Bool.eq_iff_iff, same_iff, same_iff, h]
theorem same_opaq (a b : Gl.Origin) (h : Gl.originSame a b = true) : a.opaq = b.opaq := by
  unfold Gl.originSame at h
  cases ha : a.opaq <;> cases hb : b.opaq <;> rw [ha, hb] at h <;> simp at h <;> rfl
theorem same_host (a b : Gl.Origin) (h : Gl.originSame a b = true) (ha : a.opaq = false) (hb : b.opaq = false) : a.host = b.host := by
  unfold Gl.originSame at h
  rw [ha, hb] at h
  simp at h
  exact h.1.2
theorem site_self (a : Gl.Origin) (S : List Gl.Bs) : Gl.sameSite a a S = true := by
  unfold Gl.sameSite
  split
  · exact (same_iff a a).2 rfl
  · simp
theorem site_symm (a b : Gl.Origin) (S : List Gl.Bs) : Gl.sameSite b a S = Gl.sameSite a b S := by
  unfold Gl.sameSite
  rw [Bool.or_comm, same_symm]
  split
  · rfl
  · rw [Bool.eq_iff_iff, beq_iff_eq, beq_iff_eq]; exact ⟨Eq.symm, Eq.symm⟩
theorem site_of_same (a b : Gl.Origin) (S : List Gl.Bs) (h : Gl.originSame a b = true) : Gl.sameSite a b S = true := by
  unfold Gl.sameSite
  split
  · exact h
  · rename_i ho
    have ha : a.opaq = false := by cases h1 : a.opaq <;> simp_all
    have hb : b.opaq = false := by cases h1 : b.opaq <;> simp_all
    have := same_host a b h ha hb
    unfold Gl.originSite
    rw [ha, hb, this]
    simp
theorem site_trans (a b c : Gl.Origin) (S : List Gl.Bs) (h : Gl.sameSite a b S = true) : Gl.sameSite b c S = Gl.sameSite a c S := by
  unfold Gl.sameSite at h ⊢
  cases ha : a.opaq with
  | true =>
    rw [ha] at h
    simp only [Bool.true_or, if_true] at h ⊢
    have hb : b.opaq = true := by rw [← same_opaq a b h, ha]
    rw [hb]
    simp only [Bool.true_or, if_true]
    exact same_trans a b c h
  | false =>
    cases hb : b.opaq with
    | true =>
      rw [ha, hb] at h
      simp only [Bool.or_true, if_true] at h
      have := same_opaq a b h
      rw [ha, hb] at this
      cases this
    | false =>
      rw [ha, hb] at h
      simp only [Bool.or_false, Bool.false_eq_true, if_false, beq_iff_eq] at h
      cases hc : c.opaq with
      | true =>
        simp only [Bool.or_true, if_true]
        unfold Gl.originSame
        rw [ha, hb, hc]
        simp
      | false =>
        simp only [Bool.or_false, Bool.false_eq_true, if_false]
        rw [h]

set_option maxHeartbeats 8000000 in
set_option maxRecDepth 100000 in
theorem law4_classes (a b c : Gl.Origin) (v : Value) (S : List (List UInt8)) (w : World) (hE : Env w) (ha0 : a.host.addr < 4294967296) (hb0 : b.host.addr < 4294967296) (hc0 : c.host.addr < 4294967296) (hv : Strs w w.heap.size v S) : Calls Tryd.prog 12 #[(Value.agg #[(Value.bool (a).opaq), (Value.int .i64 (a).id), (Value.string ⟨((a).scheme).toArray⟩), (Value.string ⟨(((a).host).name).toArray⟩), (Value.bool ((a).host).v4), (Value.int .u32 (((a).host).addr : Int)), (Value.int .i64 (a).port)]), (Value.agg #[(Value.bool (b).opaq), (Value.int .i64 (b).id), (Value.string ⟨((b).scheme).toArray⟩), (Value.string ⟨(((b).host).name).toArray⟩), (Value.bool ((b).host).v4), (Value.int .u32 (((b).host).addr : Int)), (Value.int .i64 (b).port)]), (Value.agg #[(Value.bool (c).opaq), (Value.int .i64 (c).id), (Value.string ⟨((c).scheme).toArray⟩), (Value.string ⟨(((c).host).name).toArray⟩), (Value.bool ((c).host).v4), (Value.int .u32 (((c).host).addr : Int)), (Value.int .i64 (c).port)]), v] w (Ret w (.bool true)) := by
  have hsm : ∀ W, Below w.heap.size w W → Calls Tryd.prog 30 #[v] W (Ret W (.bool (smallS S))) := fun W hW => (law4_small v S W _ (hv.keep hW)).mono (fun _ _ h => h.ret)
  have hsmo := @small_out S
  have hvc := hv
  obtain ⟨vA, vc, hve, hv1, hv2, _⟩ := hv
  unfold maxLen at hv2
  cases hss : smallS S with
  | false =>
    rw [hss] at hsm
    clear hsmo hvc
    subst hve
    replace hsm := Lib.hid hsm
    go_enter Tryd.func12, Tryd.ntmps12
    go_upto_region 1 with fail
    generalize hW0 : (((w.alloc (Obj.cells #[(Value.bool (a).opaq), (Value.int .i64 (a).id), (Value.string ⟨((a).scheme).toArray⟩), (Value.string ⟨(((a).host).name).toArray⟩), (Value.bool ((a).host).v4), (Value.int .u32 (((a).host).addr : Int)), (Value.int .i64 (a).port)] 40)).alloc (Obj.cells #[(Value.bool (b).opaq), (Value.int .i64 (b).id), (Value.string ⟨((b).scheme).toArray⟩), (Value.string ⟨(((b).host).name).toArray⟩), (Value.bool ((b).host).v4), (Value.int .u32 (((b).host).addr : Int)), (Value.int .i64 (b).port)] 40)).alloc (Obj.cells #[(Value.bool (c).opaq), (Value.int .i64 (c).id), (Value.string ⟨((c).scheme).toArray⟩), (Value.string ⟨(((c).host).name).toArray⟩), (Value.bool ((c).host).v4), (Value.int .u32 (((c).host).addr : Int)), (Value.int .i64 (c).port)] 40)) = W0
    have hw : Below w.heap.size w W0 := by rw [← hW0]; (repeat' first | (with_reducible exact Below.refl _ _) | (with_reducible refine Below.setCell ?_ (by first | omega | (simp; done) | (simp; omega)) _) | (with_reducible refine Below.alloc ?_ (by first | omega | (simp; done) | (simp; omega)) _) | refine below_drewN ?_ _ | refine Below.drew ?_ | (refine below_thru (by assumption) ?_ (by first | omega | (simp; done) | (simp; omega))) | exact Below.refl _ _)
    have hBU1 : Blk W0 (w.heap.size) 40 #[(Value.bool (a).opaq), (Value.int .i64 (a).id), (Value.string ⟨((a).scheme).toArray⟩), (Value.string ⟨(((a).host).name).toArray⟩), (Value.bool ((a).host).v4), (Value.int .u32 (((a).host).addr : Int)), (Value.int .i64 (a).port)] := by rw [← hW0]; exact (Blk.alloc (Blk.alloc (Blk.new _ _ _) _) _)
    have hBU2 : Blk W0 (w.heap.size + 1) 40 #[(Value.bool (b).opaq), (Value.int .i64 (b).id), (Value.string ⟨((b).scheme).toArray⟩), (Value.string ⟨(((b).host).name).toArray⟩), (Value.bool ((b).host).v4), (Value.int .u32 (((b).host).addr : Int)), (Value.int .i64 (b).port)] := by rw [← hW0]; exact (Blk.alloc (by have := Blk.new (w.alloc (Obj.cells #[(Value.bool (a).opaq), (Value.int .i64 (a).id), (Value.string ⟨((a).scheme).toArray⟩), (Value.string ⟨(((a).host).name).toArray⟩), (Value.bool ((a).host).v4), (Value.int .u32 (((a).host).addr : Int)), (Value.int .i64 (a).port)] 40)) 40 #[(Value.bool (b).opaq), (Value.int .i64 (b).id), (Value.string ⟨((b).scheme).toArray⟩), (Value.string ⟨(((b).host).name).toArray⟩), (Value.bool ((b).host).v4), (Value.int .u32 (((b).host).addr : Int)), (Value.int .i64 (b).port)]; simpa [World.size_alloc] using this) _)
    have hBU3 : Blk W0 (w.heap.size + 2) 40 #[(Value.bool (c).opaq), (Value.int .i64 (c).id), (Value.string ⟨((c).scheme).toArray⟩), (Value.string ⟨(((c).host).name).toArray⟩), (Value.bool ((c).host).v4), (Value.int .u32 (((c).host).addr : Int)), (Value.int .i64 (c).port)] := by rw [← hW0]; exact (by have := Blk.new ((w.alloc (Obj.cells #[(Value.bool (a).opaq), (Value.int .i64 (a).id), (Value.string ⟨((a).scheme).toArray⟩), (Value.string ⟨(((a).host).name).toArray⟩), (Value.bool ((a).host).v4), (Value.int .u32 (((a).host).addr : Int)), (Value.int .i64 (a).port)] 40)).alloc (Obj.cells #[(Value.bool (b).opaq), (Value.int .i64 (b).id), (Value.string ⟨((b).scheme).toArray⟩), (Value.string ⟨(((b).host).name).toArray⟩), (Value.bool ((b).host).v4), (Value.int .u32 (((b).host).addr : Int)), (Value.int .i64 (b).port)] 40)) 40 #[(Value.bool (c).opaq), (Value.int .i64 (c).id), (Value.string ⟨((c).scheme).toArray⟩), (Value.string ⟨(((c).host).name).toArray⟩), (Value.bool ((c).host).v4), (Value.int .u32 (((c).host).addr : Int)), (Value.int .i64 (c).port)]; simpa [World.size_alloc] using this)
    have hU1l := hBU1.lt
    have hU1c := hBU1.cell
    have hU1f := hBU1.frozen
    have hU2l := hBU2.lt
    have hU2c := hBU2.cell
    have hU2f := hBU2.frozen
    have hU3l := hBU3.lt
    have hU3c := hBU3.cell
    have hU3f := hBU3.frozen
    clear hW0
    go_upto_region 2 with (go_at_call 29; refine ( awake4 _ (hE.below (by (repeat' first | (with_reducible exact Below.refl _ _) | (with_reducible refine Below.setCell ?_ (by first | omega | (simp; done) | (simp; omega)) _) | (with_reducible refine Below.alloc ?_ (by first | omega | (simp; done) | (simp; omega)) _) | refine below_drewN ?_ _ | refine Below.drew ?_ | (refine below_thru (by assumption) ?_ (by first | omega | (simp; done) | (simp; omega))) | exact Below.refl _ _)))).mono ?_; rintro e w1 ⟨rfl, hb⟩; obtain ⟨hc, hfz⟩ := bcell hb; have hz := hb.size; (try simp at hz); (try have hz0 : w.heap.size < w1.heap.size := by omega); (try have hz1 : w.heap.size + 1 < w1.heap.size := by omega); (try have hz2 : w.heap.size + 2 < w1.heap.size := by omega); (try have hz3 : w.heap.size + 3 < w1.heap.size := by omega); (try have hcA := fun o => hc w.heap.size o (by first | omega | (simp; omega))); (try have hcB := fun o => hc (w.heap.size + 1) o (by first | omega | (simp; omega))); (try have hcGg := fun o => hc g o (by first | omega | (simp; omega))); (try have hfGg := fun o => hfz g o (by first | omega | (simp; omega))); (try have hzGg : g < w1.heap.size := by omega); (try have hcGgA := fun o => hc gA o (by first | omega | (simp; omega))); (try have hfGgA := fun o => hfz gA o (by first | omega | (simp; omega))); (try have hzGgA : gA < w1.heap.size := by omega); (try have hcGgB := fun o => hc gB o (by first | omega | (simp; omega))); (try have hfGgB := fun o => hfz gB o (by first | omega | (simp; omega))); (try have hzGgB : gB < w1.heap.size := by omega); (try have hcGgC := fun o => hc gC o (by first | omega | (simp; omega))); (try have hfGgC := fun o => hfz gC o (by first | omega | (simp; omega))); (try have hzGgC : gC < w1.heap.size := by omega); (try have hcGgD := fun o => hc gD o (by first | omega | (simp; omega))); (try have hfGgD := fun o => hfz gD o (by first | omega | (simp; omega))); (try have hzGgD : gD < w1.heap.size := by omega); (try have hcGgE := fun o => hc gE o (by first | omega | (simp; omega))); (try have hfGgE := fun o => hfz gE o (by first | omega | (simp; omega))); (try have hzGgE : gE < w1.heap.size := by omega); (try have hcGgF := fun o => hc gF o (by first | omega | (simp; omega))); (try have hfGgF := fun o => hfz gF o (by first | omega | (simp; omega))); (try have hzGgF : gF < w1.heap.size := by omega); (try have hcGgV := fun o => hc gV o (by first | omega | (simp; omega))); (try have hfGgV := fun o => hfz gV o (by first | omega | (simp; omega))); (try have hzGgV : gV < w1.heap.size := by omega))
    go_cut [10] from 19 (fun p w' => p = .bool false ∧ Below w.heap.size w w' ∧ Blk w' w.heap.size 40 #[(Value.bool (a).opaq), (Value.int .i64 (a).id), (Value.string ⟨((a).scheme).toArray⟩), (Value.string ⟨(((a).host).name).toArray⟩), (Value.bool ((a).host).v4), (Value.int .u32 (((a).host).addr : Int)), (Value.int .i64 (a).port)] ∧ Blk w' (w.heap.size + 1) 40 #[(Value.bool (b).opaq), (Value.int .i64 (b).id), (Value.string ⟨((b).scheme).toArray⟩), (Value.string ⟨(((b).host).name).toArray⟩), (Value.bool ((b).host).v4), (Value.int .u32 (((b).host).addr : Int)), (Value.int .i64 (b).port)] ∧ Blk w' (w.heap.size + 2) 40 #[(Value.bool (c).opaq), (Value.int .i64 (c).id), (Value.string ⟨((c).scheme).toArray⟩), (Value.string ⟨(((c).host).name).toArray⟩), (Value.bool ((c).host).v4), (Value.int .u32 (((c).host).addr : Int)), (Value.int .i64 (c).port)])
    case first =>
      have hU1l := hBU1.lt
      have hU1c := hBU1.cell
      have hU1f := hBU1.frozen
      have hU2l := hBU2.lt
      have hU2c := hBU2.cell
      have hU2f := hBU2.frozen
      have hU3l := hBU3.lt
      have hU3c := hBU3.cell
      have hU3f := hBU3.frozen
      go_wp2_with (go_at_call 30; refine ( hsm.out _ (by (repeat' first | (with_reducible exact Below.refl _ _) | (with_reducible refine Below.setCell ?_ (by first | omega | (simp; done) | (simp; omega)) _) | (with_reducible refine Below.alloc ?_ (by first | omega | (simp; done) | (simp; omega)) _) | refine below_drewN ?_ _ | refine Below.drew ?_ | (refine below_thru (by assumption) ?_ (by first | omega | (simp; done) | (simp; omega))) | exact Below.refl _ _))).mono ?_; rintro e w1 ⟨rfl, hb⟩; obtain ⟨hc, hfz⟩ := bcell hb; have hz := hb.size; (try simp at hz); (try have hz0 : w.heap.size < w1.heap.size := by omega); (try have hz1 : w.heap.size + 1 < w1.heap.size := by omega); (try have hz2 : w.heap.size + 2 < w1.heap.size := by omega); (try have hz3 : w.heap.size + 3 < w1.heap.size := by omega); (try have hcA := fun o => hc w.heap.size o (by first | omega | (simp; omega))); (try have hcB := fun o => hc (w.heap.size + 1) o (by first | omega | (simp; omega))); (try have hcGg := fun o => hc g o (by first | omega | (simp; omega))); (try have hfGg := fun o => hfz g o (by first | omega | (simp; omega))); (try have hzGg : g < w1.heap.size := by omega); (try have hcGgA := fun o => hc gA o (by first | omega | (simp; omega))); (try have hfGgA := fun o => hfz gA o (by first | omega | (simp; omega))); (try have hzGgA : gA < w1.heap.size := by omega); (try have hcGgB := fun o => hc gB o (by first | omega | (simp; omega))); (try have hfGgB := fun o => hfz gB o (by first | omega | (simp; omega))); (try have hzGgB : gB < w1.heap.size := by omega); (try have hcGgC := fun o => hc gC o (by first | omega | (simp; omega))); (try have hfGgC := fun o => hfz gC o (by first | omega | (simp; omega))); (try have hzGgC : gC < w1.heap.size := by omega); (try have hcGgD := fun o => hc gD o (by first | omega | (simp; omega))); (try have hfGgD := fun o => hfz gD o (by first | omega | (simp; omega))); (try have hzGgD : gD < w1.heap.size := by omega); (try have hcGgE := fun o => hc gE o (by first | omega | (simp; omega))); (try have hfGgE := fun o => hfz gE o (by first | omega | (simp; omega))); (try have hzGgE : gE < w1.heap.size := by omega); (try have hcGgF := fun o => hc gF o (by first | omega | (simp; omega))); (try have hfGgF := fun o => hfz gF o (by first | omega | (simp; omega))); (try have hzGgF : gF < w1.heap.size := by omega); (try have hcGgV := fun o => hc gV o (by first | omega | (simp; omega))); (try have hfGgV := fun o => hfz gV o (by first | omega | (simp; omega))); (try have hzGgV : gV < w1.heap.size := by omega))
      go_meet
      case rel => exact ⟨rfl, by (repeat' first | (with_reducible exact Below.refl _ _) | (with_reducible refine Below.setCell ?_ (by first | omega | (simp; done) | (simp; omega)) _) | (with_reducible refine Below.alloc ?_ (by first | omega | (simp; done) | (simp; omega)) _) | refine below_drewN ?_ _ | refine Below.drew ?_ | (refine below_thru (by assumption) ?_ (by first | omega | (simp; done) | (simp; omega))) | exact Below.refl _ _), by (repeat' first | (with_reducible assumption) | (with_reducible exact Blk.new _ _ _) | (with_reducible refine Blk.drew_ ?_) | (with_reducible refine Blk.alloc ?_ _) | (refine Blk.below ?_ (by assumption) (by first | omega | (simp; done) | (simp; omega)))), by (repeat' first | (with_reducible assumption) | (with_reducible exact Blk.new _ _ _) | (with_reducible refine Blk.drew_ ?_) | (with_reducible refine Blk.alloc ?_ _) | (refine Blk.below ?_ (by assumption) (by first | omega | (simp; done) | (simp; omega)))), by (repeat' first | (with_reducible assumption) | (with_reducible exact Blk.new _ _ _) | (with_reducible refine Blk.drew_ ?_) | (with_reducible refine Blk.alloc ?_ _) | (refine Blk.below ?_ (by assumption) (by first | omega | (simp; done) | (simp; omega))))⟩
    case rest =>
      clear hw hBU1 hBU2 hBU3
      obtain ⟨rfl, hw, hBU1, hBU2, hBU3⟩ := hcut
      have hU1l := hBU1.lt
      have hU1c := hBU1.cell
      have hU1f := hBU1.frozen
      have hU2l := hBU2.lt
      have hU2c := hBU2.cell
      have hU2f := hBU2.frozen
      have hU3l := hBU3.lt
      have hU3c := hBU3.cell
      have hU3f := hBU3.frozen
      go_wp2_with fail
      go_ret
      exact ⟨rfl, by (repeat' first | (with_reducible exact Below.refl _ _) | (with_reducible refine Below.setCell ?_ (by first | omega | (simp; done) | (simp; omega)) _) | (with_reducible refine Below.alloc ?_ (by first | omega | (simp; done) | (simp; omega)) _) | refine below_drewN ?_ _ | refine Below.drew ?_ | (refine below_thru (by assumption) ?_ (by first | omega | (simp; done) | (simp; omega))) | exact Below.refl _ _)⟩
  | true =>
    rw [hss] at hsm
    obtain ⟨hs1, hs2⟩ := hsmo hss
    clear hsmo hss
    have hSu : Sufs w v S := ⟨hvc, by omega, fun s hs => by have := hs2 s hs; omega⟩
    clear hs2
    by_cases hl : 1000 < a.host.name.length ∨ 1000 < b.host.name.length ∨ 1000 < c.host.name.length
    · subst hve
      clear hSu hvc
      replace hsm := Lib.hid hsm
      have hl2 : (1000 < a.host.name.length) ∨ (a.host.name.length ≤ 1000 ∧ 1000 < b.host.name.length) ∨ (a.host.name.length ≤ 1000 ∧ b.host.name.length ≤ 1000 ∧ 1000 < c.host.name.length) := by omega
      clear hl
      go_enter Tryd.func12, Tryd.ntmps12
      go_upto_region 1 with fail
      generalize hW0 : (((w.alloc (Obj.cells #[(Value.bool (a).opaq), (Value.int .i64 (a).id), (Value.string ⟨((a).scheme).toArray⟩), (Value.string ⟨(((a).host).name).toArray⟩), (Value.bool ((a).host).v4), (Value.int .u32 (((a).host).addr : Int)), (Value.int .i64 (a).port)] 40)).alloc (Obj.cells #[(Value.bool (b).opaq), (Value.int .i64 (b).id), (Value.string ⟨((b).scheme).toArray⟩), (Value.string ⟨(((b).host).name).toArray⟩), (Value.bool ((b).host).v4), (Value.int .u32 (((b).host).addr : Int)), (Value.int .i64 (b).port)] 40)).alloc (Obj.cells #[(Value.bool (c).opaq), (Value.int .i64 (c).id), (Value.string ⟨((c).scheme).toArray⟩), (Value.string ⟨(((c).host).name).toArray⟩), (Value.bool ((c).host).v4), (Value.int .u32 (((c).host).addr : Int)), (Value.int .i64 (c).port)] 40)) = W0
      have hw : Below w.heap.size w W0 := by rw [← hW0]; (repeat' first | (with_reducible exact Below.refl _ _) | (with_reducible refine Below.setCell ?_ (by first | omega | (simp; done) | (simp; omega)) _) | (with_reducible refine Below.alloc ?_ (by first | omega | (simp; done) | (simp; omega)) _) | refine below_drewN ?_ _ | refine Below.drew ?_ | (refine below_thru (by assumption) ?_ (by first | omega | (simp; done) | (simp; omega))) | exact Below.refl _ _)
      have hBU1 : Blk W0 (w.heap.size) 40 #[(Value.bool (a).opaq), (Value.int .i64 (a).id), (Value.string ⟨((a).scheme).toArray⟩), (Value.string ⟨(((a).host).name).toArray⟩), (Value.bool ((a).host).v4), (Value.int .u32 (((a).host).addr : Int)), (Value.int .i64 (a).port)] := by rw [← hW0]; exact (Blk.alloc (Blk.alloc (Blk.new _ _ _) _) _)
      have hBU2 : Blk W0 (w.heap.size + 1) 40 #[(Value.bool (b).opaq), (Value.int .i64 (b).id), (Value.string ⟨((b).scheme).toArray⟩), (Value.string ⟨(((b).host).name).toArray⟩), (Value.bool ((b).host).v4), (Value.int .u32 (((b).host).addr : Int)), (Value.int .i64 (b).port)] := by rw [← hW0]; exact (Blk.alloc (by have := Blk.new (w.alloc (Obj.cells #[(Value.bool (a).opaq), (Value.int .i64 (a).id), (Value.string ⟨((a).scheme).toArray⟩), (Value.string ⟨(((a).host).name).toArray⟩), (Value.bool ((a).host).v4), (Value.int .u32 (((a).host).addr : Int)), (Value.int .i64 (a).port)] 40)) 40 #[(Value.bool (b).opaq), (Value.int .i64 (b).id), (Value.string ⟨((b).scheme).toArray⟩), (Value.string ⟨(((b).host).name).toArray⟩), (Value.bool ((b).host).v4), (Value.int .u32 (((b).host).addr : Int)), (Value.int .i64 (b).port)]; simpa [World.size_alloc] using this) _)
      have hBU3 : Blk W0 (w.heap.size + 2) 40 #[(Value.bool (c).opaq), (Value.int .i64 (c).id), (Value.string ⟨((c).scheme).toArray⟩), (Value.string ⟨(((c).host).name).toArray⟩), (Value.bool ((c).host).v4), (Value.int .u32 (((c).host).addr : Int)), (Value.int .i64 (c).port)] := by rw [← hW0]; exact (by have := Blk.new ((w.alloc (Obj.cells #[(Value.bool (a).opaq), (Value.int .i64 (a).id), (Value.string ⟨((a).scheme).toArray⟩), (Value.string ⟨(((a).host).name).toArray⟩), (Value.bool ((a).host).v4), (Value.int .u32 (((a).host).addr : Int)), (Value.int .i64 (a).port)] 40)).alloc (Obj.cells #[(Value.bool (b).opaq), (Value.int .i64 (b).id), (Value.string ⟨((b).scheme).toArray⟩), (Value.string ⟨(((b).host).name).toArray⟩), (Value.bool ((b).host).v4), (Value.int .u32 (((b).host).addr : Int)), (Value.int .i64 (b).port)] 40)) 40 #[(Value.bool (c).opaq), (Value.int .i64 (c).id), (Value.string ⟨((c).scheme).toArray⟩), (Value.string ⟨(((c).host).name).toArray⟩), (Value.bool ((c).host).v4), (Value.int .u32 (((c).host).addr : Int)), (Value.int .i64 (c).port)]; simpa [World.size_alloc] using this)
      have hU1l := hBU1.lt
      have hU1c := hBU1.cell
      have hU1f := hBU1.frozen
      have hU2l := hBU2.lt
      have hU2c := hBU2.cell
      have hU2f := hBU2.frozen
      have hU3l := hBU3.lt
      have hU3c := hBU3.cell
      have hU3f := hBU3.frozen
      clear hW0
      go_upto_region 2 with (go_at_call 29; refine ( awake4 _ (hE.below (by (repeat' first | (with_reducible exact Below.refl _ _) | (with_reducible refine Below.setCell ?_ (by first | omega | (simp; done) | (simp; omega)) _) | (with_reducible refine Below.alloc ?_ (by first | omega | (simp; done) | (simp; omega)) _) | refine below_drewN ?_ _ | refine Below.drew ?_ | (refine below_thru (by assumption) ?_ (by first | omega | (simp; done) | (simp; omega))) | exact Below.refl _ _)))).mono ?_; rintro e w1 ⟨rfl, hb⟩; obtain ⟨hc, hfz⟩ := bcell hb; have hz := hb.size; (try simp at hz); (try have hz0 : w.heap.size < w1.heap.size := by omega); (try have hz1 : w.heap.size + 1 < w1.heap.size := by omega); (try have hz2 : w.heap.size + 2 < w1.heap.size := by omega); (try have hz3 : w.heap.size + 3 < w1.heap.size := by omega); (try have hcA := fun o => hc w.heap.size o (by first | omega | (simp; omega))); (try have hcB := fun o => hc (w.heap.size + 1) o (by first | omega | (simp; omega))); (try have hcGg := fun o => hc g o (by first | omega | (simp; omega))); (try have hfGg := fun o => hfz g o (by first | omega | (simp; omega))); (try have hzGg : g < w1.heap.size := by omega); (try have hcGgA := fun o => hc gA o (by first | omega | (simp; omega))); (try have hfGgA := fun o => hfz gA o (by first | omega | (simp; omega))); (try have hzGgA : gA < w1.heap.size := by omega); (try have hcGgB := fun o => hc gB o (by first | omega | (simp; omega))); (try have hfGgB := fun o => hfz gB o (by first | omega | (simp; omega))); (try have hzGgB : gB < w1.heap.size := by omega); (try have hcGgC := fun o => hc gC o (by first | omega | (simp; omega))); (try have hfGgC := fun o => hfz gC o (by first | omega | (simp; omega))); (try have hzGgC : gC < w1.heap.size := by omega); (try have hcGgD := fun o => hc gD o (by first | omega | (simp; omega))); (try have hfGgD := fun o => hfz gD o (by first | omega | (simp; omega))); (try have hzGgD : gD < w1.heap.size := by omega); (try have hcGgE := fun o => hc gE o (by first | omega | (simp; omega))); (try have hfGgE := fun o => hfz gE o (by first | omega | (simp; omega))); (try have hzGgE : gE < w1.heap.size := by omega); (try have hcGgF := fun o => hc gF o (by first | omega | (simp; omega))); (try have hfGgF := fun o => hfz gF o (by first | omega | (simp; omega))); (try have hzGgF : gF < w1.heap.size := by omega); (try have hcGgV := fun o => hc gV o (by first | omega | (simp; omega))); (try have hfGgV := fun o => hfz gV o (by first | omega | (simp; omega))); (try have hzGgV : gV < w1.heap.size := by omega))
      go_cut [10] from 19 (fun p w' => p = .bool true ∧ Below w.heap.size w w' ∧ Blk w' w.heap.size 40 #[(Value.bool (a).opaq), (Value.int .i64 (a).id), (Value.string ⟨((a).scheme).toArray⟩), (Value.string ⟨(((a).host).name).toArray⟩), (Value.bool ((a).host).v4), (Value.int .u32 (((a).host).addr : Int)), (Value.int .i64 (a).port)] ∧ Blk w' (w.heap.size + 1) 40 #[(Value.bool (b).opaq), (Value.int .i64 (b).id), (Value.string ⟨((b).scheme).toArray⟩), (Value.string ⟨(((b).host).name).toArray⟩), (Value.bool ((b).host).v4), (Value.int .u32 (((b).host).addr : Int)), (Value.int .i64 (b).port)] ∧ Blk w' (w.heap.size + 2) 40 #[(Value.bool (c).opaq), (Value.int .i64 (c).id), (Value.string ⟨((c).scheme).toArray⟩), (Value.string ⟨(((c).host).name).toArray⟩), (Value.bool ((c).host).v4), (Value.int .u32 (((c).host).addr : Int)), (Value.int .i64 (c).port)])
      case first =>
        have hU1l := hBU1.lt
        have hU1c := hBU1.cell
        have hU1f := hBU1.frozen
        have hU2l := hBU2.lt
        have hU2c := hBU2.cell
        have hU2f := hBU2.frozen
        have hU3l := hBU3.lt
        have hU3c := hBU3.cell
        have hU3f := hBU3.frozen
        go_wp2_with (go_at_call 30; refine ( hsm.out _ (by (repeat' first | (with_reducible exact Below.refl _ _) | (with_reducible refine Below.setCell ?_ (by first | omega | (simp; done) | (simp; omega)) _) | (with_reducible refine Below.alloc ?_ (by first | omega | (simp; done) | (simp; omega)) _) | refine below_drewN ?_ _ | refine Below.drew ?_ | (refine below_thru (by assumption) ?_ (by first | omega | (simp; done) | (simp; omega))) | exact Below.refl _ _))).mono ?_; rintro e w1 ⟨rfl, hb⟩; obtain ⟨hc, hfz⟩ := bcell hb; have hz := hb.size; (try simp at hz); (try have hz0 : w.heap.size < w1.heap.size := by omega); (try have hz1 : w.heap.size + 1 < w1.heap.size := by omega); (try have hz2 : w.heap.size + 2 < w1.heap.size := by omega); (try have hz3 : w.heap.size + 3 < w1.heap.size := by omega); (try have hcA := fun o => hc w.heap.size o (by first | omega | (simp; omega))); (try have hcB := fun o => hc (w.heap.size + 1) o (by first | omega | (simp; omega))); (try have hcGg := fun o => hc g o (by first | omega | (simp; omega))); (try have hfGg := fun o => hfz g o (by first | omega | (simp; omega))); (try have hzGg : g < w1.heap.size := by omega); (try have hcGgA := fun o => hc gA o (by first | omega | (simp; omega))); (try have hfGgA := fun o => hfz gA o (by first | omega | (simp; omega))); (try have hzGgA : gA < w1.heap.size := by omega); (try have hcGgB := fun o => hc gB o (by first | omega | (simp; omega))); (try have hfGgB := fun o => hfz gB o (by first | omega | (simp; omega))); (try have hzGgB : gB < w1.heap.size := by omega); (try have hcGgC := fun o => hc gC o (by first | omega | (simp; omega))); (try have hfGgC := fun o => hfz gC o (by first | omega | (simp; omega))); (try have hzGgC : gC < w1.heap.size := by omega); (try have hcGgD := fun o => hc gD o (by first | omega | (simp; omega))); (try have hfGgD := fun o => hfz gD o (by first | omega | (simp; omega))); (try have hzGgD : gD < w1.heap.size := by omega); (try have hcGgE := fun o => hc gE o (by first | omega | (simp; omega))); (try have hfGgE := fun o => hfz gE o (by first | omega | (simp; omega))); (try have hzGgE : gE < w1.heap.size := by omega); (try have hcGgF := fun o => hc gF o (by first | omega | (simp; omega))); (try have hfGgF := fun o => hfz gF o (by first | omega | (simp; omega))); (try have hzGgF : gF < w1.heap.size := by omega); (try have hcGgV := fun o => hc gV o (by first | omega | (simp; omega))); (try have hfGgV := fun o => hfz gV o (by first | omega | (simp; omega))); (try have hzGgV : gV < w1.heap.size := by omega))
        go_meet
        case rel => exact ⟨rfl, by (repeat' first | (with_reducible exact Below.refl _ _) | (with_reducible refine Below.setCell ?_ (by first | omega | (simp; done) | (simp; omega)) _) | (with_reducible refine Below.alloc ?_ (by first | omega | (simp; done) | (simp; omega)) _) | refine below_drewN ?_ _ | refine Below.drew ?_ | (refine below_thru (by assumption) ?_ (by first | omega | (simp; done) | (simp; omega))) | exact Below.refl _ _), by (repeat' first | (with_reducible assumption) | (with_reducible exact Blk.new _ _ _) | (with_reducible refine Blk.drew_ ?_) | (with_reducible refine Blk.alloc ?_ _) | (refine Blk.below ?_ (by assumption) (by first | omega | (simp; done) | (simp; omega)))), by (repeat' first | (with_reducible assumption) | (with_reducible exact Blk.new _ _ _) | (with_reducible refine Blk.drew_ ?_) | (with_reducible refine Blk.alloc ?_ _) | (refine Blk.below ?_ (by assumption) (by first | omega | (simp; done) | (simp; omega)))), by (repeat' first | (with_reducible assumption) | (with_reducible exact Blk.new _ _ _) | (with_reducible refine Blk.drew_ ?_) | (with_reducible refine Blk.alloc ?_ _) | (refine Blk.below ?_ (by assumption) (by first | omega | (simp; done) | (simp; omega))))⟩
      case rest =>
        clear hw hBU1 hBU2 hBU3
        obtain ⟨rfl, hw, hBU1, hBU2, hBU3⟩ := hcut
        have hU1l := hBU1.lt
        have hU1c := hBU1.cell
        have hU1f := hBU1.frozen
        have hU2l := hBU2.lt
        have hU2c := hBU2.cell
        have hU2f := hBU2.frozen
        have hU3l := hBU3.lt
        have hU3c := hBU3.cell
        have hU3f := hBU3.frozen
        rcases hl2 with hl2 | ⟨hl3, hl2⟩ | ⟨hl3, hl4, hl2⟩
        all_goals go_wp2_with fail
        all_goals go_ret
        all_goals exact ⟨rfl, by (repeat' first | (with_reducible exact Below.refl _ _) | (with_reducible refine Below.setCell ?_ (by first | omega | (simp; done) | (simp; omega)) _) | (with_reducible refine Below.alloc ?_ (by first | omega | (simp; done) | (simp; omega)) _) | refine below_drewN ?_ _ | refine Below.drew ?_ | (refine below_thru (by assumption) ?_ (by first | omega | (simp; done) | (simp; omega))) | exact Below.refl _ _)⟩
    · have hla : a.host.name.length ≤ 1000 := by omega
      have hlb : b.host.name.length ≤ 1000 := by omega
      have hlc : c.host.name.length ≤ 1000 := by omega
      clear hl
      have fa : OFits a := ⟨ha0, by omega⟩
      have fb : OFits b := ⟨hb0, by omega⟩
      have fc : OFits c := ⟨hc0, by omega⟩
      have hab := fun W => origin_same a b W
      have hbc := fun W => origin_same b c W
      have hac := fun W => origin_same a c W
      have haa := fun W => origin_same a a W
      rw [(same_iff a a).2 rfl] at haa
      have hba := fun W => origin_same b a W
      rw [same_symm] at hba
      have jab := fun W (hW : Below w.heap.size w W) => origin_same_site a b v S W (hE.below hW) fa fb (hSu.below hW)
      have jbc := fun W (hW : Below w.heap.size w W) => origin_same_site b c v S W (hE.below hW) fb fc (hSu.below hW)
      have jac := fun W (hW : Below w.heap.size w W) => origin_same_site a c v S W (hE.below hW) fa fc (hSu.below hW)
      have jaa := fun W (hW : Below w.heap.size w W) => origin_same_site a a v S W (hE.below hW) fa fa (hSu.below hW)
      rw [site_self] at jaa
      have jba := fun W (hW : Below w.heap.size w W) => origin_same_site b a v S W (hE.below hW) fb fa (hSu.below hW)
      rw [site_symm] at jba
      have hf1 : Gl.originSame a b = true → Gl.originSame b c = Gl.originSame a c := same_trans a b c
      have hf2 : Gl.sameSite a b S = true → Gl.sameSite b c S = Gl.sameSite a c S := site_trans a b c S
      have hf3 : Gl.originSame a b = true → Gl.sameSite a b S = true := site_of_same a b S
      generalize Gl.originSame a b = ab at *
      generalize Gl.originSame b c = bc at *
      generalize Gl.originSame a c = ac at *
      generalize Gl.sameSite a b S = sab at *
      generalize Gl.sameSite b c S = sbc at *
      generalize Gl.sameSite a c S = sac at *
      subst hve
      clear hSu hvc fa fb fc
      replace hsm := Lib.hid hsm
      replace hab := Lib.hid hab
      replace hbc := Lib.hid hbc
      replace hac := Lib.hid hac
      replace haa := Lib.hid haa
      replace hba := Lib.hid hba
      replace jab := Lib.hid jab
      replace jbc := Lib.hid jbc
      replace jac := Lib.hid jac
      replace jaa := Lib.hid jaa
      replace jba := Lib.hid jba
      replace hf1 := Lib.hid hf1
      replace hf2 := Lib.hid hf2
      replace hf3 := Lib.hid hf3
      go_enter Tryd.func12, Tryd.ntmps12
      go_upto_region 1 with fail
      generalize hW0 : (((w.alloc (Obj.cells #[(Value.bool (a).opaq), (Value.int .i64 (a).id), (Value.string ⟨((a).scheme).toArray⟩), (Value.string ⟨(((a).host).name).toArray⟩), (Value.bool ((a).host).v4), (Value.int .u32 (((a).host).addr : Int)), (Value.int .i64 (a).port)] 40)).alloc (Obj.cells #[(Value.bool (b).opaq), (Value.int .i64 (b).id), (Value.string ⟨((b).scheme).toArray⟩), (Value.string ⟨(((b).host).name).toArray⟩), (Value.bool ((b).host).v4), (Value.int .u32 (((b).host).addr : Int)), (Value.int .i64 (b).port)] 40)).alloc (Obj.cells #[(Value.bool (c).opaq), (Value.int .i64 (c).id), (Value.string ⟨((c).scheme).toArray⟩), (Value.string ⟨(((c).host).name).toArray⟩), (Value.bool ((c).host).v4), (Value.int .u32 (((c).host).addr : Int)), (Value.int .i64 (c).port)] 40)) = W0
      have hw : Below w.heap.size w W0 := by rw [← hW0]; (repeat' first | (with_reducible exact Below.refl _ _) | (with_reducible refine Below.setCell ?_ (by first | omega | (simp; done) | (simp; omega)) _) | (with_reducible refine Below.alloc ?_ (by first | omega | (simp; done) | (simp; omega)) _) | refine below_drewN ?_ _ | refine Below.drew ?_ | (refine below_thru (by assumption) ?_ (by first | omega | (simp; done) | (simp; omega))) | exact Below.refl _ _)
      have hBU1 : Blk W0 (w.heap.size) 40 #[(Value.bool (a).opaq), (Value.int .i64 (a).id), (Value.string ⟨((a).scheme).toArray⟩), (Value.string ⟨(((a).host).name).toArray⟩), (Value.bool ((a).host).v4), (Value.int .u32 (((a).host).addr : Int)), (Value.int .i64 (a).port)] := by rw [← hW0]; exact (Blk.alloc (Blk.alloc (Blk.new _ _ _) _) _)
      have hBU2 : Blk W0 (w.heap.size + 1) 40 #[(Value.bool (b).opaq), (Value.int .i64 (b).id), (Value.string ⟨((b).scheme).toArray⟩), (Value.string ⟨(((b).host).name).toArray⟩), (Value.bool ((b).host).v4), (Value.int .u32 (((b).host).addr : Int)), (Value.int .i64 (b).port)] := by rw [← hW0]; exact (Blk.alloc (by have := Blk.new (w.alloc (Obj.cells #[(Value.bool (a).opaq), (Value.int .i64 (a).id), (Value.string ⟨((a).scheme).toArray⟩), (Value.string ⟨(((a).host).name).toArray⟩), (Value.bool ((a).host).v4), (Value.int .u32 (((a).host).addr : Int)), (Value.int .i64 (a).port)] 40)) 40 #[(Value.bool (b).opaq), (Value.int .i64 (b).id), (Value.string ⟨((b).scheme).toArray⟩), (Value.string ⟨(((b).host).name).toArray⟩), (Value.bool ((b).host).v4), (Value.int .u32 (((b).host).addr : Int)), (Value.int .i64 (b).port)]; simpa [World.size_alloc] using this) _)
      have hBU3 : Blk W0 (w.heap.size + 2) 40 #[(Value.bool (c).opaq), (Value.int .i64 (c).id), (Value.string ⟨((c).scheme).toArray⟩), (Value.string ⟨(((c).host).name).toArray⟩), (Value.bool ((c).host).v4), (Value.int .u32 (((c).host).addr : Int)), (Value.int .i64 (c).port)] := by rw [← hW0]; exact (by have := Blk.new ((w.alloc (Obj.cells #[(Value.bool (a).opaq), (Value.int .i64 (a).id), (Value.string ⟨((a).scheme).toArray⟩), (Value.string ⟨(((a).host).name).toArray⟩), (Value.bool ((a).host).v4), (Value.int .u32 (((a).host).addr : Int)), (Value.int .i64 (a).port)] 40)).alloc (Obj.cells #[(Value.bool (b).opaq), (Value.int .i64 (b).id), (Value.string ⟨((b).scheme).toArray⟩), (Value.string ⟨(((b).host).name).toArray⟩), (Value.bool ((b).host).v4), (Value.int .u32 (((b).host).addr : Int)), (Value.int .i64 (b).port)] 40)) 40 #[(Value.bool (c).opaq), (Value.int .i64 (c).id), (Value.string ⟨((c).scheme).toArray⟩), (Value.string ⟨(((c).host).name).toArray⟩), (Value.bool ((c).host).v4), (Value.int .u32 (((c).host).addr : Int)), (Value.int .i64 (c).port)]; simpa [World.size_alloc] using this)
      have hU1l := hBU1.lt
      have hU1c := hBU1.cell
      have hU1f := hBU1.frozen
      have hU2l := hBU2.lt
      have hU2c := hBU2.cell
      have hU2f := hBU2.frozen
      have hU3l := hBU3.lt
      have hU3c := hBU3.cell
      have hU3f := hBU3.frozen
      clear hW0
      go_upto_region 2 with (go_at_call 29; refine ( awake4 _ (hE.below (by (repeat' first | (with_reducible exact Below.refl _ _) | (with_reducible refine Below.setCell ?_ (by first | omega | (simp; done) | (simp; omega)) _) | (with_reducible refine Below.alloc ?_ (by first | omega | (simp; done) | (simp; omega)) _) | refine below_drewN ?_ _ | refine Below.drew ?_ | (refine below_thru (by assumption) ?_ (by first | omega | (simp; done) | (simp; omega))) | exact Below.refl _ _)))).mono ?_; rintro e w1 ⟨rfl, hb⟩; obtain ⟨hc, hfz⟩ := bcell hb; have hz := hb.size; (try simp at hz); (try have hz0 : w.heap.size < w1.heap.size := by omega); (try have hz1 : w.heap.size + 1 < w1.heap.size := by omega); (try have hz2 : w.heap.size + 2 < w1.heap.size := by omega); (try have hz3 : w.heap.size + 3 < w1.heap.size := by omega); (try have hcA := fun o => hc w.heap.size o (by first | omega | (simp; omega))); (try have hcB := fun o => hc (w.heap.size + 1) o (by first | omega | (simp; omega))); (try have hcGg := fun o => hc g o (by first | omega | (simp; omega))); (try have hfGg := fun o => hfz g o (by first | omega | (simp; omega))); (try have hzGg : g < w1.heap.size := by omega); (try have hcGgA := fun o => hc gA o (by first | omega | (simp; omega))); (try have hfGgA := fun o => hfz gA o (by first | omega | (simp; omega))); (try have hzGgA : gA < w1.heap.size := by omega); (try have hcGgB := fun o => hc gB o (by first | omega | (simp; omega))); (try have hfGgB := fun o => hfz gB o (by first | omega | (simp; omega))); (try have hzGgB : gB < w1.heap.size := by omega); (try have hcGgC := fun o => hc gC o (by first | omega | (simp; omega))); (try have hfGgC := fun o => hfz gC o (by first | omega | (simp; omega))); (try have hzGgC : gC < w1.heap.size := by omega); (try have hcGgD := fun o => hc gD o (by first | omega | (simp; omega))); (try have hfGgD := fun o => hfz gD o (by first | omega | (simp; omega))); (try have hzGgD : gD < w1.heap.size := by omega); (try have hcGgE := fun o => hc gE o (by first | omega | (simp; omega))); (try have hfGgE := fun o => hfz gE o (by first | omega | (simp; omega))); (try have hzGgE : gE < w1.heap.size := by omega); (try have hcGgF := fun o => hc gF o (by first | omega | (simp; omega))); (try have hfGgF := fun o => hfz gF o (by first | omega | (simp; omega))); (try have hzGgF : gF < w1.heap.size := by omega); (try have hcGgV := fun o => hc gV o (by first | omega | (simp; omega))); (try have hfGgV := fun o => hfz gV o (by first | omega | (simp; omega))); (try have hzGgV : gV < w1.heap.size := by omega))
      go_cut [10] from 19 (fun p w' => p = .bool true ∧ Below w.heap.size w w' ∧ Blk w' w.heap.size 40 #[(Value.bool (a).opaq), (Value.int .i64 (a).id), (Value.string ⟨((a).scheme).toArray⟩), (Value.string ⟨(((a).host).name).toArray⟩), (Value.bool ((a).host).v4), (Value.int .u32 (((a).host).addr : Int)), (Value.int .i64 (a).port)] ∧ Blk w' (w.heap.size + 1) 40 #[(Value.bool (b).opaq), (Value.int .i64 (b).id), (Value.string ⟨((b).scheme).toArray⟩), (Value.string ⟨(((b).host).name).toArray⟩), (Value.bool ((b).host).v4), (Value.int .u32 (((b).host).addr : Int)), (Value.int .i64 (b).port)] ∧ Blk w' (w.heap.size + 2) 40 #[(Value.bool (c).opaq), (Value.int .i64 (c).id), (Value.string ⟨((c).scheme).toArray⟩), (Value.string ⟨(((c).host).name).toArray⟩), (Value.bool ((c).host).v4), (Value.int .u32 (((c).host).addr : Int)), (Value.int .i64 (c).port)])
      case first =>
        have hU1l := hBU1.lt
        have hU1c := hBU1.cell
        have hU1f := hBU1.frozen
        have hU2l := hBU2.lt
        have hU2c := hBU2.cell
        have hU2f := hBU2.frozen
        have hU3l := hBU3.lt
        have hU3c := hBU3.cell
        have hU3f := hBU3.frozen
        go_wp2_with (go_at_call 30; refine ( hsm.out _ (by (repeat' first | (with_reducible exact Below.refl _ _) | (with_reducible refine Below.setCell ?_ (by first | omega | (simp; done) | (simp; omega)) _) | (with_reducible refine Below.alloc ?_ (by first | omega | (simp; done) | (simp; omega)) _) | refine below_drewN ?_ _ | refine Below.drew ?_ | (refine below_thru (by assumption) ?_ (by first | omega | (simp; done) | (simp; omega))) | exact Below.refl _ _))).mono ?_; rintro e w1 ⟨rfl, hb⟩; obtain ⟨hc, hfz⟩ := bcell hb; have hz := hb.size; (try simp at hz); (try have hz0 : w.heap.size < w1.heap.size := by omega); (try have hz1 : w.heap.size + 1 < w1.heap.size := by omega); (try have hz2 : w.heap.size + 2 < w1.heap.size := by omega); (try have hz3 : w.heap.size + 3 < w1.heap.size := by omega); (try have hcA := fun o => hc w.heap.size o (by first | omega | (simp; omega))); (try have hcB := fun o => hc (w.heap.size + 1) o (by first | omega | (simp; omega))); (try have hcGg := fun o => hc g o (by first | omega | (simp; omega))); (try have hfGg := fun o => hfz g o (by first | omega | (simp; omega))); (try have hzGg : g < w1.heap.size := by omega); (try have hcGgA := fun o => hc gA o (by first | omega | (simp; omega))); (try have hfGgA := fun o => hfz gA o (by first | omega | (simp; omega))); (try have hzGgA : gA < w1.heap.size := by omega); (try have hcGgB := fun o => hc gB o (by first | omega | (simp; omega))); (try have hfGgB := fun o => hfz gB o (by first | omega | (simp; omega))); (try have hzGgB : gB < w1.heap.size := by omega); (try have hcGgC := fun o => hc gC o (by first | omega | (simp; omega))); (try have hfGgC := fun o => hfz gC o (by first | omega | (simp; omega))); (try have hzGgC : gC < w1.heap.size := by omega); (try have hcGgD := fun o => hc gD o (by first | omega | (simp; omega))); (try have hfGgD := fun o => hfz gD o (by first | omega | (simp; omega))); (try have hzGgD : gD < w1.heap.size := by omega); (try have hcGgE := fun o => hc gE o (by first | omega | (simp; omega))); (try have hfGgE := fun o => hfz gE o (by first | omega | (simp; omega))); (try have hzGgE : gE < w1.heap.size := by omega); (try have hcGgF := fun o => hc gF o (by first | omega | (simp; omega))); (try have hfGgF := fun o => hfz gF o (by first | omega | (simp; omega))); (try have hzGgF : gF < w1.heap.size := by omega); (try have hcGgV := fun o => hc gV o (by first | omega | (simp; omega))); (try have hfGgV := fun o => hfz gV o (by first | omega | (simp; omega))); (try have hzGgV : gV < w1.heap.size := by omega))
        go_meet
        case rel => exact ⟨rfl, by (repeat' first | (with_reducible exact Below.refl _ _) | (with_reducible refine Below.setCell ?_ (by first | omega | (simp; done) | (simp; omega)) _) | (with_reducible refine Below.alloc ?_ (by first | omega | (simp; done) | (simp; omega)) _) | refine below_drewN ?_ _ | refine Below.drew ?_ | (refine below_thru (by assumption) ?_ (by first | omega | (simp; done) | (simp; omega))) | exact Below.refl _ _), by (repeat' first | (with_reducible assumption) | (with_reducible exact Blk.new _ _ _) | (with_reducible refine Blk.drew_ ?_) | (with_reducible refine Blk.alloc ?_ _) | (refine Blk.below ?_ (by assumption) (by first | omega | (simp; done) | (simp; omega)))), by (repeat' first | (with_reducible assumption) | (with_reducible exact Blk.new _ _ _) | (with_reducible refine Blk.drew_ ?_) | (with_reducible refine Blk.alloc ?_ _) | (refine Blk.below ?_ (by assumption) (by first | omega | (simp; done) | (simp; omega)))), by (repeat' first | (with_reducible assumption) | (with_reducible exact Blk.new _ _ _) | (with_reducible refine Blk.drew_ ?_) | (with_reducible refine Blk.alloc ?_ _) | (refine Blk.below ?_ (by assumption) (by first | omega | (simp; done) | (simp; omega))))⟩
      case rest =>
        clear hw hBU1 hBU2 hBU3
        obtain ⟨rfl, hw, hBU1, hBU2, hBU3⟩ := hcut
        have hU1l := hBU1.lt
        have hU1c := hBU1.cell
        have hU1f := hBU1.frozen
        have hU2l := hBU2.lt
        have hU2c := hBU2.cell
        have hU2f := hBU2.frozen
        have hU3l := hBU3.lt
        have hU3c := hBU3.cell
        have hU3f := hBU3.frozen
        go_upto_region 5 with fail
        go_cut [11] from 19 (fun p w' => p = .bool ab ∧ Below w.heap.size w w' ∧ Blk w' w.heap.size 40 #[(Value.bool (a).opaq), (Value.int .i64 (a).id), (Value.string ⟨((a).scheme).toArray⟩), (Value.string ⟨(((a).host).name).toArray⟩), (Value.bool ((a).host).v4), (Value.int .u32 (((a).host).addr : Int)), (Value.int .i64 (a).port)] ∧ Blk w' (w.heap.size + 1) 40 #[(Value.bool (b).opaq), (Value.int .i64 (b).id), (Value.string ⟨((b).scheme).toArray⟩), (Value.string ⟨(((b).host).name).toArray⟩), (Value.bool ((b).host).v4), (Value.int .u32 (((b).host).addr : Int)), (Value.int .i64 (b).port)] ∧ Blk w' (w.heap.size + 2) 40 #[(Value.bool (c).opaq), (Value.int .i64 (c).id), (Value.string ⟨((c).scheme).toArray⟩), (Value.string ⟨(((c).host).name).toArray⟩), (Value.bool ((c).host).v4), (Value.int .u32 (((c).host).addr : Int)), (Value.int .i64 (c).port)])
        case first =>
          have hU1l := hBU1.lt
          have hU1c := hBU1.cell
          have hU1f := hBU1.frozen
          have hU2l := hBU2.lt
          have hU2c := hBU2.cell
          have hU2f := hBU2.frozen
          have hU3l := hBU3.lt
          have hU3c := hBU3.cell
          have hU3f := hBU3.frozen
          go_wp2_with (go_at_call 31; refine ( hab.out _).mono ?_; rintro e w1 ⟨rfl, hb⟩; obtain ⟨hc, hfz⟩ := bcell hb; have hz := hb.size; (try simp at hz); (try have hz0 : w.heap.size < w1.heap.size := by omega); (try have hz1 : w.heap.size + 1 < w1.heap.size := by omega); (try have hz2 : w.heap.size + 2 < w1.heap.size := by omega); (try have hz3 : w.heap.size + 3 < w1.heap.size := by omega); (try have hcA := fun o => hc w.heap.size o (by first | omega | (simp; omega))); (try have hcB := fun o => hc (w.heap.size + 1) o (by first | omega | (simp; omega))); (try have hcGg := fun o => hc g o (by first | omega | (simp; omega))); (try have hfGg := fun o => hfz g o (by first | omega | (simp; omega))); (try have hzGg : g < w1.heap.size := by omega); (try have hcGgA := fun o => hc gA o (by first | omega | (simp; omega))); (try have hfGgA := fun o => hfz gA o (by first | omega | (simp; omega))); (try have hzGgA : gA < w1.heap.size := by omega); (try have hcGgB := fun o => hc gB o (by first | omega | (simp; omega))); (try have hfGgB := fun o => hfz gB o (by first | omega | (simp; omega))); (try have hzGgB : gB < w1.heap.size := by omega); (try have hcGgC := fun o => hc gC o (by first | omega | (simp; omega))); (try have hfGgC := fun o => hfz gC o (by first | omega | (simp; omega))); (try have hzGgC : gC < w1.heap.size := by omega); (try have hcGgD := fun o => hc gD o (by first | omega | (simp; omega))); (try have hfGgD := fun o => hfz gD o (by first | omega | (simp; omega))); (try have hzGgD : gD < w1.heap.size := by omega); (try have hcGgE := fun o => hc gE o (by first | omega | (simp; omega))); (try have hfGgE := fun o => hfz gE o (by first | omega | (simp; omega))); (try have hzGgE : gE < w1.heap.size := by omega); (try have hcGgF := fun o => hc gF o (by first | omega | (simp; omega))); (try have hfGgF := fun o => hfz gF o (by first | omega | (simp; omega))); (try have hzGgF : gF < w1.heap.size := by omega); (try have hcGgV := fun o => hc gV o (by first | omega | (simp; omega))); (try have hfGgV := fun o => hfz gV o (by first | omega | (simp; omega))); (try have hzGgV : gV < w1.heap.size := by omega))
          go_meet
          case rel => exact ⟨rfl, by (repeat' first | (with_reducible exact Below.refl _ _) | (with_reducible refine Below.setCell ?_ (by first | omega | (simp; done) | (simp; omega)) _) | (with_reducible refine Below.alloc ?_ (by first | omega | (simp; done) | (simp; omega)) _) | refine below_drewN ?_ _ | refine Below.drew ?_ | (refine below_thru (by assumption) ?_ (by first | omega | (simp; done) | (simp; omega))) | exact Below.refl _ _), by (repeat' first | (with_reducible assumption) | (with_reducible exact Blk.new _ _ _) | (with_reducible refine Blk.drew_ ?_) | (with_reducible refine Blk.alloc ?_ _) | (refine Blk.below ?_ (by assumption) (by first | omega | (simp; done) | (simp; omega)))), by (repeat' first | (with_reducible assumption) | (with_reducible exact Blk.new _ _ _) | (with_reducible refine Blk.drew_ ?_) | (with_reducible refine Blk.alloc ?_ _) | (refine Blk.below ?_ (by assumption) (by first | omega | (simp; done) | (simp; omega)))), by (repeat' first | (with_reducible assumption) | (with_reducible exact Blk.new _ _ _) | (with_reducible refine Blk.drew_ ?_) | (with_reducible refine Blk.alloc ?_ _) | (refine Blk.below ?_ (by assumption) (by first | omega | (simp; done) | (simp; omega))))⟩
        case rest =>
          clear hw hBU1 hBU2 hBU3
          obtain ⟨rfl, hw, hBU1, hBU2, hBU3⟩ := hcut
          go_upto_region 6 with fail
          go_cut [12] from 19 (fun p w' => p = .bool bc ∧ Below w.heap.size w w' ∧ Blk w' w.heap.size 40 #[(Value.bool (a).opaq), (Value.int .i64 (a).id), (Value.string ⟨((a).scheme).toArray⟩), (Value.string ⟨(((a).host).name).toArray⟩), (Value.bool ((a).host).v4), (Value.int .u32 (((a).host).addr : Int)), (Value.int .i64 (a).port)] ∧ Blk w' (w.heap.size + 1) 40 #[(Value.bool (b).opaq), (Value.int .i64 (b).id), (Value.string ⟨((b).scheme).toArray⟩), (Value.string ⟨(((b).host).name).toArray⟩), (Value.bool ((b).host).v4), (Value.int .u32 (((b).host).addr : Int)), (Value.int .i64 (b).port)] ∧ Blk w' (w.heap.size + 2) 40 #[(Value.bool (c).opaq), (Value.int .i64 (c).id), (Value.string ⟨((c).scheme).toArray⟩), (Value.string ⟨(((c).host).name).toArray⟩), (Value.bool ((c).host).v4), (Value.int .u32 (((c).host).addr : Int)), (Value.int .i64 (c).port)])
          case first =>
            have hU1l := hBU1.lt
            have hU1c := hBU1.cell
            have hU1f := hBU1.frozen
            have hU2l := hBU2.lt
            have hU2c := hBU2.cell
            have hU2f := hBU2.frozen
            have hU3l := hBU3.lt
            have hU3c := hBU3.cell
            have hU3f := hBU3.frozen
            go_wp2_with (go_at_call 31; refine ( hbc.out _).mono ?_; rintro e w1 ⟨rfl, hb⟩; obtain ⟨hc, hfz⟩ := bcell hb; have hz := hb.size; (try simp at hz); (try have hz0 : w.heap.size < w1.heap.size := by omega); (try have hz1 : w.heap.size + 1 < w1.heap.size := by omega); (try have hz2 : w.heap.size + 2 < w1.heap.size := by omega); (try have hz3 : w.heap.size + 3 < w1.heap.size := by omega); (try have hcA := fun o => hc w.heap.size o (by first | omega | (simp; omega))); (try have hcB := fun o => hc (w.heap.size + 1) o (by first | omega | (simp; omega))); (try have hcGg := fun o => hc g o (by first | omega | (simp; omega))); (try have hfGg := fun o => hfz g o (by first | omega | (simp; omega))); (try have hzGg : g < w1.heap.size := by omega); (try have hcGgA := fun o => hc gA o (by first | omega | (simp; omega))); (try have hfGgA := fun o => hfz gA o (by first | omega | (simp; omega))); (try have hzGgA : gA < w1.heap.size := by omega); (try have hcGgB := fun o => hc gB o (by first | omega | (simp; omega))); (try have hfGgB := fun o => hfz gB o (by first | omega | (simp; omega))); (try have hzGgB : gB < w1.heap.size := by omega); (try have hcGgC := fun o => hc gC o (by first | omega | (simp; omega))); (try have hfGgC := fun o => hfz gC o (by first | omega | (simp; omega))); (try have hzGgC : gC < w1.heap.size := by omega); (try have hcGgD := fun o => hc gD o (by first | omega | (simp; omega))); (try have hfGgD := fun o => hfz gD o (by first | omega | (simp; omega))); (try have hzGgD : gD < w1.heap.size := by omega); (try have hcGgE := fun o => hc gE o (by first | omega | (simp; omega))); (try have hfGgE := fun o => hfz gE o (by first | omega | (simp; omega))); (try have hzGgE : gE < w1.heap.size := by omega); (try have hcGgF := fun o => hc gF o (by first | omega | (simp; omega))); (try have hfGgF := fun o => hfz gF o (by first | omega | (simp; omega))); (try have hzGgF : gF < w1.heap.size := by omega); (try have hcGgV := fun o => hc gV o (by first | omega | (simp; omega))); (try have hfGgV := fun o => hfz gV o (by first | omega | (simp; omega))); (try have hzGgV : gV < w1.heap.size := by omega))
            go_meet
            case rel => exact ⟨rfl, by (repeat' first | (with_reducible exact Below.refl _ _) | (with_reducible refine Below.setCell ?_ (by first | omega | (simp; done) | (simp; omega)) _) | (with_reducible refine Below.alloc ?_ (by first | omega | (simp; done) | (simp; omega)) _) | refine below_drewN ?_ _ | refine Below.drew ?_ | (refine below_thru (by assumption) ?_ (by first | omega | (simp; done) | (simp; omega))) | exact Below.refl _ _), by (repeat' first | (with_reducible assumption) | (with_reducible exact Blk.new _ _ _) | (with_reducible refine Blk.drew_ ?_) | (with_reducible refine Blk.alloc ?_ _) | (refine Blk.below ?_ (by assumption) (by first | omega | (simp; done) | (simp; omega)))), by (repeat' first | (with_reducible assumption) | (with_reducible exact Blk.new _ _ _) | (with_reducible refine Blk.drew_ ?_) | (with_reducible refine Blk.alloc ?_ _) | (refine Blk.below ?_ (by assumption) (by first | omega | (simp; done) | (simp; omega)))), by (repeat' first | (with_reducible assumption) | (with_reducible exact Blk.new _ _ _) | (with_reducible refine Blk.drew_ ?_) | (with_reducible refine Blk.alloc ?_ _) | (refine Blk.below ?_ (by assumption) (by first | omega | (simp; done) | (simp; omega))))⟩
          case rest =>
            clear hw hBU1 hBU2 hBU3
            obtain ⟨rfl, hw, hBU1, hBU2, hBU3⟩ := hcut
            go_upto_region 7 with fail
            go_cut [13] from 19 (fun p w' => p = .bool ac ∧ Below w.heap.size w w' ∧ Blk w' w.heap.size 40 #[(Value.bool (a).opaq), (Value.int .i64 (a).id), (Value.string ⟨((a).scheme).toArray⟩), (Value.string ⟨(((a).host).name).toArray⟩), (Value.bool ((a).host).v4), (Value.int .u32 (((a).host).addr : Int)), (Value.int .i64 (a).port)] ∧ Blk w' (w.heap.size + 1) 40 #[(Value.bool (b).opaq), (Value.int .i64 (b).id), (Value.string ⟨((b).scheme).toArray⟩), (Value.string ⟨(((b).host).name).toArray⟩), (Value.bool ((b).host).v4), (Value.int .u32 (((b).host).addr : Int)), (Value.int .i64 (b).port)] ∧ Blk w' (w.heap.size + 2) 40 #[(Value.bool (c).opaq), (Value.int .i64 (c).id), (Value.string ⟨((c).scheme).toArray⟩), (Value.string ⟨(((c).host).name).toArray⟩), (Value.bool ((c).host).v4), (Value.int .u32 (((c).host).addr : Int)), (Value.int .i64 (c).port)])
            case first =>
              have hU1l := hBU1.lt
              have hU1c := hBU1.cell
              have hU1f := hBU1.frozen
              have hU2l := hBU2.lt
              have hU2c := hBU2.cell
              have hU2f := hBU2.frozen
              have hU3l := hBU3.lt
              have hU3c := hBU3.cell
              have hU3f := hBU3.frozen
              go_wp2_with (go_at_call 31; refine ( hac.out _).mono ?_; rintro e w1 ⟨rfl, hb⟩; obtain ⟨hc, hfz⟩ := bcell hb; have hz := hb.size; (try simp at hz); (try have hz0 : w.heap.size < w1.heap.size := by omega); (try have hz1 : w.heap.size + 1 < w1.heap.size := by omega); (try have hz2 : w.heap.size + 2 < w1.heap.size := by omega); (try have hz3 : w.heap.size + 3 < w1.heap.size := by omega); (try have hcA := fun o => hc w.heap.size o (by first | omega | (simp; omega))); (try have hcB := fun o => hc (w.heap.size + 1) o (by first | omega | (simp; omega))); (try have hcGg := fun o => hc g o (by first | omega | (simp; omega))); (try have hfGg := fun o => hfz g o (by first | omega | (simp; omega))); (try have hzGg : g < w1.heap.size := by omega); (try have hcGgA := fun o => hc gA o (by first | omega | (simp; omega))); (try have hfGgA := fun o => hfz gA o (by first | omega | (simp; omega))); (try have hzGgA : gA < w1.heap.size := by omega); (try have hcGgB := fun o => hc gB o (by first | omega | (simp; omega))); (try have hfGgB := fun o => hfz gB o (by first | omega | (simp; omega))); (try have hzGgB : gB < w1.heap.size := by omega); (try have hcGgC := fun o => hc gC o (by first | omega | (simp; omega))); (try have hfGgC := fun o => hfz gC o (by first | omega | (simp; omega))); (try have hzGgC : gC < w1.heap.size := by omega); (try have hcGgD := fun o => hc gD o (by first | omega | (simp; omega))); (try have hfGgD := fun o => hfz gD o (by first | omega | (simp; omega))); (try have hzGgD : gD < w1.heap.size := by omega); (try have hcGgE := fun o => hc gE o (by first | omega | (simp; omega))); (try have hfGgE := fun o => hfz gE o (by first | omega | (simp; omega))); (try have hzGgE : gE < w1.heap.size := by omega); (try have hcGgF := fun o => hc gF o (by first | omega | (simp; omega))); (try have hfGgF := fun o => hfz gF o (by first | omega | (simp; omega))); (try have hzGgF : gF < w1.heap.size := by omega); (try have hcGgV := fun o => hc gV o (by first | omega | (simp; omega))); (try have hfGgV := fun o => hfz gV o (by first | omega | (simp; omega))); (try have hzGgV : gV < w1.heap.size := by omega))
              go_meet
              case rel => exact ⟨rfl, by (repeat' first | (with_reducible exact Below.refl _ _) | (with_reducible refine Below.setCell ?_ (by first | omega | (simp; done) | (simp; omega)) _) | (with_reducible refine Below.alloc ?_ (by first | omega | (simp; done) | (simp; omega)) _) | refine below_drewN ?_ _ | refine Below.drew ?_ | (refine below_thru (by assumption) ?_ (by first | omega | (simp; done) | (simp; omega))) | exact Below.refl _ _), by (repeat' first | (with_reducible assumption) | (with_reducible exact Blk.new _ _ _) | (with_reducible refine Blk.drew_ ?_) | (with_reducible refine Blk.alloc ?_ _) | (refine Blk.below ?_ (by assumption) (by first | omega | (simp; done) | (simp; omega)))), by (repeat' first | (with_reducible assumption) | (with_reducible exact Blk.new _ _ _) | (with_reducible refine Blk.drew_ ?_) | (with_reducible refine Blk.alloc ?_ _) | (refine Blk.below ?_ (by assumption) (by first | omega | (simp; done) | (simp; omega)))), by (repeat' first | (with_reducible assumption) | (with_reducible exact Blk.new _ _ _) | (with_reducible refine Blk.drew_ ?_) | (with_reducible refine Blk.alloc ?_ _) | (refine Blk.below ?_ (by assumption) (by first | omega | (simp; done) | (simp; omega))))⟩
            case rest =>
              clear hw hBU1 hBU2 hBU3
              obtain ⟨rfl, hw, hBU1, hBU2, hBU3⟩ := hcut
              go_upto_region 8 with fail
              go_cut [14] from 19 (fun p w' => p = .bool sab ∧ Below w.heap.size w w' ∧ Blk w' w.heap.size 40 #[(Value.bool (a).opaq), (Value.int .i64 (a).id), (Value.string ⟨((a).scheme).toArray⟩), (Value.string ⟨(((a).host).name).toArray⟩), (Value.bool ((a).host).v4), (Value.int .u32 (((a).host).addr : Int)), (Value.int .i64 (a).port)] ∧ Blk w' (w.heap.size + 1) 40 #[(Value.bool (b).opaq), (Value.int .i64 (b).id), (Value.string ⟨((b).scheme).toArray⟩), (Value.string ⟨(((b).host).name).toArray⟩), (Value.bool ((b).host).v4), (Value.int .u32 (((b).host).addr : Int)), (Value.int .i64 (b).port)] ∧ Blk w' (w.heap.size + 2) 40 #[(Value.bool (c).opaq), (Value.int .i64 (c).id), (Value.string ⟨((c).scheme).toArray⟩), (Value.string ⟨(((c).host).name).toArray⟩), (Value.bool ((c).host).v4), (Value.int .u32 (((c).host).addr : Int)), (Value.int .i64 (c).port)])
              case first =>
                have hU1l := hBU1.lt
                have hU1c := hBU1.cell
                have hU1f := hBU1.frozen
                have hU2l := hBU2.lt
                have hU2c := hBU2.cell
                have hU2f := hBU2.frozen
                have hU3l := hBU3.lt
                have hU3c := hBU3.cell
                have hU3f := hBU3.frozen
                go_wp2_with (go_at_call 37; refine ( jab.out _ (by (repeat' first | (with_reducible exact Below.refl _ _) | (with_reducible refine Below.setCell ?_ (by first | omega | (simp; done) | (simp; omega)) _) | (with_reducible refine Below.alloc ?_ (by first | omega | (simp; done) | (simp; omega)) _) | refine below_drewN ?_ _ | refine Below.drew ?_ | (refine below_thru (by assumption) ?_ (by first | omega | (simp; done) | (simp; omega))) | exact Below.refl _ _))).mono ?_; rintro e w1 ⟨rfl, hb⟩; obtain ⟨hc, hfz⟩ := bcell hb; have hz := hb.size; (try simp at hz); (try have hz0 : w.heap.size < w1.heap.size := by omega); (try have hz1 : w.heap.size + 1 < w1.heap.size := by omega); (try have hz2 : w.heap.size + 2 < w1.heap.size := by omega); (try have hz3 : w.heap.size + 3 < w1.heap.size := by omega); (try have hcA := fun o => hc w.heap.size o (by first | omega | (simp; omega))); (try have hcB := fun o => hc (w.heap.size + 1) o (by first | omega | (simp; omega))); (try have hcGg := fun o => hc g o (by first | omega | (simp; omega))); (try have hfGg := fun o => hfz g o (by first | omega | (simp; omega))); (try have hzGg : g < w1.heap.size := by omega); (try have hcGgA := fun o => hc gA o (by first | omega | (simp; omega))); (try have hfGgA := fun o => hfz gA o (by first | omega | (simp; omega))); (try have hzGgA : gA < w1.heap.size := by omega); (try have hcGgB := fun o => hc gB o (by first | omega | (simp; omega))); (try have hfGgB := fun o => hfz gB o (by first | omega | (simp; omega))); (try have hzGgB : gB < w1.heap.size := by omega); (try have hcGgC := fun o => hc gC o (by first | omega | (simp; omega))); (try have hfGgC := fun o => hfz gC o (by first | omega | (simp; omega))); (try have hzGgC : gC < w1.heap.size := by omega); (try have hcGgD := fun o => hc gD o (by first | omega | (simp; omega))); (try have hfGgD := fun o => hfz gD o (by first | omega | (simp; omega))); (try have hzGgD : gD < w1.heap.size := by omega); (try have hcGgE := fun o => hc gE o (by first | omega | (simp; omega))); (try have hfGgE := fun o => hfz gE o (by first | omega | (simp; omega))); (try have hzGgE : gE < w1.heap.size := by omega); (try have hcGgF := fun o => hc gF o (by first | omega | (simp; omega))); (try have hfGgF := fun o => hfz gF o (by first | omega | (simp; omega))); (try have hzGgF : gF < w1.heap.size := by omega); (try have hcGgV := fun o => hc gV o (by first | omega | (simp; omega))); (try have hfGgV := fun o => hfz gV o (by first | omega | (simp; omega))); (try have hzGgV : gV < w1.heap.size := by omega))
                go_meet
                case rel => exact ⟨rfl, by (repeat' first | (with_reducible exact Below.refl _ _) | (with_reducible refine Below.setCell ?_ (by first | omega | (simp; done) | (simp; omega)) _) | (with_reducible refine Below.alloc ?_ (by first | omega | (simp; done) | (simp; omega)) _) | refine below_drewN ?_ _ | refine Below.drew ?_ | (refine below_thru (by assumption) ?_ (by first | omega | (simp; done) | (simp; omega))) | exact Below.refl _ _), by (repeat' first | (with_reducible assumption) | (with_reducible exact Blk.new _ _ _) | (with_reducible refine Blk.drew_ ?_) | (with_reducible refine Blk.alloc ?_ _) | (refine Blk.below ?_ (by assumption) (by first | omega | (simp; done) | (simp; omega)))), by (repeat' first | (with_reducible assumption) | (with_reducible exact Blk.new _ _ _) | (with_reducible refine Blk.drew_ ?_) | (with_reducible refine Blk.alloc ?_ _) | (refine Blk.below ?_ (by assumption) (by first | omega | (simp; done) | (simp; omega)))), by (repeat' first | (with_reducible assumption) | (with_reducible exact Blk.new _ _ _) | (with_reducible refine Blk.drew_ ?_) | (with_reducible refine Blk.alloc ?_ _) | (refine Blk.below ?_ (by assumption) (by first | omega | (simp; done) | (simp; omega))))⟩
              case rest =>
                clear hw hBU1 hBU2 hBU3
                obtain ⟨rfl, hw, hBU1, hBU2, hBU3⟩ := hcut
                go_upto_region 9 with fail
                go_cut [15] from 19 (fun p w' => p = .bool sbc ∧ Below w.heap.size w w' ∧ Blk w' w.heap.size 40 #[(Value.bool (a).opaq), (Value.int .i64 (a).id), (Value.string ⟨((a).scheme).toArray⟩), (Value.string ⟨(((a).host).name).toArray⟩), (Value.bool ((a).host).v4), (Value.int .u32 (((a).host).addr : Int)), (Value.int .i64 (a).port)] ∧ Blk w' (w.heap.size + 1) 40 #[(Value.bool (b).opaq), (Value.int .i64 (b).id), (Value.string ⟨((b).scheme).toArray⟩), (Value.string ⟨(((b).host).name).toArray⟩), (Value.bool ((b).host).v4), (Value.int .u32 (((b).host).addr : Int)), (Value.int .i64 (b).port)] ∧ Blk w' (w.heap.size + 2) 40 #[(Value.bool (c).opaq), (Value.int .i64 (c).id), (Value.string ⟨((c).scheme).toArray⟩), (Value.string ⟨(((c).host).name).toArray⟩), (Value.bool ((c).host).v4), (Value.int .u32 (((c).host).addr : Int)), (Value.int .i64 (c).port)])
                case first =>
                  have hU1l := hBU1.lt
                  have hU1c := hBU1.cell
                  have hU1f := hBU1.frozen
                  have hU2l := hBU2.lt
                  have hU2c := hBU2.cell
                  have hU2f := hBU2.frozen
                  have hU3l := hBU3.lt
                  have hU3c := hBU3.cell
                  have hU3f := hBU3.frozen
                  go_wp2_with (go_at_call 37; refine ( jbc.out _ (by (repeat' first | (with_reducible exact Below.refl _ _) | (with_reducible refine Below.setCell ?_ (by first | omega | (simp; done) | (simp; omega)) _) | (with_reducible refine Below.alloc ?_ (by first | omega | (simp; done) | (simp; omega)) _) | refine below_drewN ?_ _ | refine Below.drew ?_ | (refine below_thru (by assumption) ?_ (by first | omega | (simp; done) | (simp; omega))) | exact Below.refl _ _))).mono ?_; rintro e w1 ⟨rfl, hb⟩; obtain ⟨hc, hfz⟩ := bcell hb; have hz := hb.size; (try simp at hz); (try have hz0 : w.heap.size < w1.heap.size := by omega); (try have hz1 : w.heap.size + 1 < w1.heap.size := by omega); (try have hz2 : w.heap.size + 2 < w1.heap.size := by omega); (try have hz3 : w.heap.size + 3 < w1.heap.size := by omega); (try have hcA := fun o => hc w.heap.size o (by first | omega | (simp; omega))); (try have hcB := fun o => hc (w.heap.size + 1) o (by first | omega | (simp; omega))); (try have hcGg := fun o => hc g o (by first | omega | (simp; omega))); (try have hfGg := fun o => hfz g o (by first | omega | (simp; omega))); (try have hzGg : g < w1.heap.size := by omega); (try have hcGgA := fun o => hc gA o (by first | omega | (simp; omega))); (try have hfGgA := fun o => hfz gA o (by first | omega | (simp; omega))); (try have hzGgA : gA < w1.heap.size := by omega); (try have hcGgB := fun o => hc gB o (by first | omega | (simp; omega))); (try have hfGgB := fun o => hfz gB o (by first | omega | (simp; omega))); (try have hzGgB : gB < w1.heap.size := by omega); (try have hcGgC := fun o => hc gC o (by first | omega | (simp; omega))); (try have hfGgC := fun o => hfz gC o (by first | omega | (simp; omega))); (try have hzGgC : gC < w1.heap.size := by omega); (try have hcGgD := fun o => hc gD o (by first | omega | (simp; omega))); (try have hfGgD := fun o => hfz gD o (by first | omega | (simp; omega))); (try have hzGgD : gD < w1.heap.size := by omega); (try have hcGgE := fun o => hc gE o (by first | omega | (simp; omega))); (try have hfGgE := fun o => hfz gE o (by first | omega | (simp; omega))); (try have hzGgE : gE < w1.heap.size := by omega); (try have hcGgF := fun o => hc gF o (by first | omega | (simp; omega))); (try have hfGgF := fun o => hfz gF o (by first | omega | (simp; omega))); (try have hzGgF : gF < w1.heap.size := by omega); (try have hcGgV := fun o => hc gV o (by first | omega | (simp; omega))); (try have hfGgV := fun o => hfz gV o (by first | omega | (simp; omega))); (try have hzGgV : gV < w1.heap.size := by omega))
                  go_meet
                  case rel => exact ⟨rfl, by (repeat' first | (with_reducible exact Below.refl _ _) | (with_reducible refine Below.setCell ?_ (by first | omega | (simp; done) | (simp; omega)) _) | (with_reducible refine Below.alloc ?_ (by first | omega | (simp; done) | (simp; omega)) _) | refine below_drewN ?_ _ | refine Below.drew ?_ | (refine below_thru (by assumption) ?_ (by first | omega | (simp; done) | (simp; omega))) | exact Below.refl _ _), by (repeat' first | (with_reducible assumption) | (with_reducible exact Blk.new _ _ _) | (with_reducible refine Blk.drew_ ?_) | (with_reducible refine Blk.alloc ?_ _) | (refine Blk.below ?_ (by assumption) (by first | omega | (simp; done) | (simp; omega)))), by (repeat' first | (with_reducible assumption) | (with_reducible exact Blk.new _ _ _) | (with_reducible refine Blk.drew_ ?_) | (with_reducible refine Blk.alloc ?_ _) | (refine Blk.below ?_ (by assumption) (by first | omega | (simp; done) | (simp; omega)))), by (repeat' first | (with_reducible assumption) | (with_reducible exact Blk.new _ _ _) | (with_reducible refine Blk.drew_ ?_) | (with_reducible refine Blk.alloc ?_ _) | (refine Blk.below ?_ (by assumption) (by first | omega | (simp; done) | (simp; omega))))⟩
                case rest =>
                  clear hw hBU1 hBU2 hBU3
                  obtain ⟨rfl, hw, hBU1, hBU2, hBU3⟩ := hcut
                  go_upto_region 10 with fail
                  go_cut [16] from 19 (fun p w' => p = .bool sac ∧ Below w.heap.size w w' ∧ Blk w' w.heap.size 40 #[(Value.bool (a).opaq), (Value.int .i64 (a).id), (Value.string ⟨((a).scheme).toArray⟩), (Value.string ⟨(((a).host).name).toArray⟩), (Value.bool ((a).host).v4), (Value.int .u32 (((a).host).addr : Int)), (Value.int .i64 (a).port)] ∧ Blk w' (w.heap.size + 1) 40 #[(Value.bool (b).opaq), (Value.int .i64 (b).id), (Value.string ⟨((b).scheme).toArray⟩), (Value.string ⟨(((b).host).name).toArray⟩), (Value.bool ((b).host).v4), (Value.int .u32 (((b).host).addr : Int)), (Value.int .i64 (b).port)] ∧ Blk w' (w.heap.size + 2) 40 #[(Value.bool (c).opaq), (Value.int .i64 (c).id), (Value.string ⟨((c).scheme).toArray⟩), (Value.string ⟨(((c).host).name).toArray⟩), (Value.bool ((c).host).v4), (Value.int .u32 (((c).host).addr : Int)), (Value.int .i64 (c).port)])
                  case first =>
                    have hU1l := hBU1.lt
                    have hU1c := hBU1.cell
                    have hU1f := hBU1.frozen
                    have hU2l := hBU2.lt
                    have hU2c := hBU2.cell
                    have hU2f := hBU2.frozen
                    have hU3l := hBU3.lt
                    have hU3c := hBU3.cell
                    have hU3f := hBU3.frozen
                    go_wp2_with (go_at_call 37; refine ( jac.out _ (by (repeat' first | (with_reducible exact Below.refl _ _) | (with_reducible refine Below.setCell ?_ (by first | omega | (simp; done) | (simp; omega)) _) | (with_reducible refine Below.alloc ?_ (by first | omega | (simp; done) | (simp; omega)) _) | refine below_drewN ?_ _ | refine Below.drew ?_ | (refine below_thru (by assumption) ?_ (by first | omega | (simp; done) | (simp; omega))) | exact Below.refl _ _))).mono ?_; rintro e w1 ⟨rfl, hb⟩; obtain ⟨hc, hfz⟩ := bcell hb; have hz := hb.size; (try simp at hz); (try have hz0 : w.heap.size < w1.heap.size := by omega); (try have hz1 : w.heap.size + 1 < w1.heap.size := by omega); (try have hz2 : w.heap.size + 2 < w1.heap.size := by omega); (try have hz3 : w.heap.size + 3 < w1.heap.size := by omega); (try have hcA := fun o => hc w.heap.size o (by first | omega | (simp; omega))); (try have hcB := fun o => hc (w.heap.size + 1) o (by first | omega | (simp; omega))); (try have hcGg := fun o => hc g o (by first | omega | (simp; omega))); (try have hfGg := fun o => hfz g o (by first | omega | (simp; omega))); (try have hzGg : g < w1.heap.size := by omega); (try have hcGgA := fun o => hc gA o (by first | omega | (simp; omega))); (try have hfGgA := fun o => hfz gA o (by first | omega | (simp; omega))); (try have hzGgA : gA < w1.heap.size := by omega); (try have hcGgB := fun o => hc gB o (by first | omega | (simp; omega))); (try have hfGgB := fun o => hfz gB o (by first | omega | (simp; omega))); (try have hzGgB : gB < w1.heap.size := by omega); (try have hcGgC := fun o => hc gC o (by first | omega | (simp; omega))); (try have hfGgC := fun o => hfz gC o (by first | omega | (simp; omega))); (try have hzGgC : gC < w1.heap.size := by omega); (try have hcGgD := fun o => hc gD o (by first | omega | (simp; omega))); (try have hfGgD := fun o => hfz gD o (by first | omega | (simp; omega))); (try have hzGgD : gD < w1.heap.size := by omega); (try have hcGgE := fun o => hc gE o (by first | omega | (simp; omega))); (try have hfGgE := fun o => hfz gE o (by first | omega | (simp; omega))); (try have hzGgE : gE < w1.heap.size := by omega); (try have hcGgF := fun o => hc gF o (by first | omega | (simp; omega))); (try have hfGgF := fun o => hfz gF o (by first | omega | (simp; omega))); (try have hzGgF : gF < w1.heap.size := by omega); (try have hcGgV := fun o => hc gV o (by first | omega | (simp; omega))); (try have hfGgV := fun o => hfz gV o (by first | omega | (simp; omega))); (try have hzGgV : gV < w1.heap.size := by omega))
                    go_meet
                    case rel => exact ⟨rfl, by (repeat' first | (with_reducible exact Below.refl _ _) | (with_reducible refine Below.setCell ?_ (by first | omega | (simp; done) | (simp; omega)) _) | (with_reducible refine Below.alloc ?_ (by first | omega | (simp; done) | (simp; omega)) _) | refine below_drewN ?_ _ | refine Below.drew ?_ | (refine below_thru (by assumption) ?_ (by first | omega | (simp; done) | (simp; omega))) | exact Below.refl _ _), by (repeat' first | (with_reducible assumption) | (with_reducible exact Blk.new _ _ _) | (with_reducible refine Blk.drew_ ?_) | (with_reducible refine Blk.alloc ?_ _) | (refine Blk.below ?_ (by assumption) (by first | omega | (simp; done) | (simp; omega)))), by (repeat' first | (with_reducible assumption) | (with_reducible exact Blk.new _ _ _) | (with_reducible refine Blk.drew_ ?_) | (with_reducible refine Blk.alloc ?_ _) | (refine Blk.below ?_ (by assumption) (by first | omega | (simp; done) | (simp; omega)))), by (repeat' first | (with_reducible assumption) | (with_reducible exact Blk.new _ _ _) | (with_reducible refine Blk.drew_ ?_) | (with_reducible refine Blk.alloc ?_ _) | (refine Blk.below ?_ (by assumption) (by first | omega | (simp; done) | (simp; omega))))⟩
                  case rest =>
                    clear hw hBU1 hBU2 hBU3
                    obtain ⟨rfl, hw, hBU1, hBU2, hBU3⟩ := hcut
                    go_upto_region 11 with fail
                    go_cut [17] from 19 (fun p w' => p = .bool true ∧ Below w.heap.size w w' ∧ Blk w' w.heap.size 40 #[(Value.bool (a).opaq), (Value.int .i64 (a).id), (Value.string ⟨((a).scheme).toArray⟩), (Value.string ⟨(((a).host).name).toArray⟩), (Value.bool ((a).host).v4), (Value.int .u32 (((a).host).addr : Int)), (Value.int .i64 (a).port)] ∧ Blk w' (w.heap.size + 1) 40 #[(Value.bool (b).opaq), (Value.int .i64 (b).id), (Value.string ⟨((b).scheme).toArray⟩), (Value.string ⟨(((b).host).name).toArray⟩), (Value.bool ((b).host).v4), (Value.int .u32 (((b).host).addr : Int)), (Value.int .i64 (b).port)] ∧ Blk w' (w.heap.size + 2) 40 #[(Value.bool (c).opaq), (Value.int .i64 (c).id), (Value.string ⟨((c).scheme).toArray⟩), (Value.string ⟨(((c).host).name).toArray⟩), (Value.bool ((c).host).v4), (Value.int .u32 (((c).host).addr : Int)), (Value.int .i64 (c).port)])
                    case first =>
                      have hU1l := hBU1.lt
                      have hU1c := hBU1.cell
                      have hU1f := hBU1.frozen
                      have hU2l := hBU2.lt
                      have hU2c := hBU2.cell
                      have hU2f := hBU2.frozen
                      have hU3l := hBU3.lt
                      have hU3c := hBU3.cell
                      have hU3f := hBU3.frozen
                      go_wp2_with (first | (go_at_call 31; refine ( haa.out _).mono ?_; rintro e w1 ⟨rfl, hb⟩; obtain ⟨hc, hfz⟩ := bcell hb; have hz := hb.size; (try simp at hz); (try have hz0 : w.heap.size < w1.heap.size := by omega); (try have hz1 : w.heap.size + 1 < w1.heap.size := by omega); (try have hz2 : w.heap.size + 2 < w1.heap.size := by omega); (try have hz3 : w.heap.size + 3 < w1.heap.size := by omega); (try have hcA := fun o => hc w.heap.size o (by first | omega | (simp; omega))); (try have hcB := fun o => hc (w.heap.size + 1) o (by first | omega | (simp; omega))); (try have hcGg := fun o => hc g o (by first | omega | (simp; omega))); (try have hfGg := fun o => hfz g o (by first | omega | (simp; omega))); (try have hzGg : g < w1.heap.size := by omega); (try have hcGgA := fun o => hc gA o (by first | omega | (simp; omega))); (try have hfGgA := fun o => hfz gA o (by first | omega | (simp; omega))); (try have hzGgA : gA < w1.heap.size := by omega); (try have hcGgB := fun o => hc gB o (by first | omega | (simp; omega))); (try have hfGgB := fun o => hfz gB o (by first | omega | (simp; omega))); (try have hzGgB : gB < w1.heap.size := by omega); (try have hcGgC := fun o => hc gC o (by first | omega | (simp; omega))); (try have hfGgC := fun o => hfz gC o (by first | omega | (simp; omega))); (try have hzGgC : gC < w1.heap.size := by omega); (try have hcGgD := fun o => hc gD o (by first | omega | (simp; omega))); (try have hfGgD := fun o => hfz gD o (by first | omega | (simp; omega))); (try have hzGgD : gD < w1.heap.size := by omega); (try have hcGgE := fun o => hc gE o (by first | omega | (simp; omega))); (try have hfGgE := fun o => hfz gE o (by first | omega | (simp; omega))); (try have hzGgE : gE < w1.heap.size := by omega); (try have hcGgF := fun o => hc gF o (by first | omega | (simp; omega))); (try have hfGgF := fun o => hfz gF o (by first | omega | (simp; omega))); (try have hzGgF : gF < w1.heap.size := by omega); (try have hcGgV := fun o => hc gV o (by first | omega | (simp; omega))); (try have hfGgV := fun o => hfz gV o (by first | omega | (simp; omega))); (try have hzGgV : gV < w1.heap.size := by omega)) | (go_at_call 37; refine ( jaa.out _ (by (repeat' first | (with_reducible exact Below.refl _ _) | (with_reducible refine Below.setCell ?_ (by first | omega | (simp; done) | (simp; omega)) _) | (with_reducible refine Below.alloc ?_ (by first | omega | (simp; done) | (simp; omega)) _) | refine below_drewN ?_ _ | refine Below.drew ?_ | (refine below_thru (by assumption) ?_ (by first | omega | (simp; done) | (simp; omega))) | exact Below.refl _ _))).mono ?_; rintro e w1 ⟨rfl, hb⟩; obtain ⟨hc, hfz⟩ := bcell hb; have hz := hb.size; (try simp at hz); (try have hz0 : w.heap.size < w1.heap.size := by omega); (try have hz1 : w.heap.size + 1 < w1.heap.size := by omega); (try have hz2 : w.heap.size + 2 < w1.heap.size := by omega); (try have hz3 : w.heap.size + 3 < w1.heap.size := by omega); (try have hcA := fun o => hc w.heap.size o (by first | omega | (simp; omega))); (try have hcB := fun o => hc (w.heap.size + 1) o (by first | omega | (simp; omega))); (try have hcGg := fun o => hc g o (by first | omega | (simp; omega))); (try have hfGg := fun o => hfz g o (by first | omega | (simp; omega))); (try have hzGg : g < w1.heap.size := by omega); (try have hcGgA := fun o => hc gA o (by first | omega | (simp; omega))); (try have hfGgA := fun o => hfz gA o (by first | omega | (simp; omega))); (try have hzGgA : gA < w1.heap.size := by omega); (try have hcGgB := fun o => hc gB o (by first | omega | (simp; omega))); (try have hfGgB := fun o => hfz gB o (by first | omega | (simp; omega))); (try have hzGgB : gB < w1.heap.size := by omega); (try have hcGgC := fun o => hc gC o (by first | omega | (simp; omega))); (try have hfGgC := fun o => hfz gC o (by first | omega | (simp; omega))); (try have hzGgC : gC < w1.heap.size := by omega); (try have hcGgD := fun o => hc gD o (by first | omega | (simp; omega))); (try have hfGgD := fun o => hfz gD o (by first | omega | (simp; omega))); (try have hzGgD : gD < w1.heap.size := by omega); (try have hcGgE := fun o => hc gE o (by first | omega | (simp; omega))); (try have hfGgE := fun o => hfz gE o (by first | omega | (simp; omega))); (try have hzGgE : gE < w1.heap.size := by omega); (try have hcGgF := fun o => hc gF o (by first | omega | (simp; omega))); (try have hfGgF := fun o => hfz gF o (by first | omega | (simp; omega))); (try have hzGgF : gF < w1.heap.size := by omega); (try have hcGgV := fun o => hc gV o (by first | omega | (simp; omega))); (try have hfGgV := fun o => hfz gV o (by first | omega | (simp; omega))); (try have hzGgV : gV < w1.heap.size := by omega)))
                      go_meet
                      case rel => exact ⟨rfl, by (repeat' first | (with_reducible exact Below.refl _ _) | (with_reducible refine Below.setCell ?_ (by first | omega | (simp; done) | (simp; omega)) _) | (with_reducible refine Below.alloc ?_ (by first | omega | (simp; done) | (simp; omega)) _) | refine below_drewN ?_ _ | refine Below.drew ?_ | (refine below_thru (by assumption) ?_ (by first | omega | (simp; done) | (simp; omega))) | exact Below.refl _ _), by (repeat' first | (with_reducible assumption) | (with_reducible exact Blk.new _ _ _) | (with_reducible refine Blk.drew_ ?_) | (with_reducible refine Blk.alloc ?_ _) | (refine Blk.below ?_ (by assumption) (by first | omega | (simp; done) | (simp; omega)))), by (repeat' first | (with_reducible assumption) | (with_reducible exact Blk.new _ _ _) | (with_reducible refine Blk.drew_ ?_) | (with_reducible refine Blk.alloc ?_ _) | (refine Blk.below ?_ (by assumption) (by first | omega | (simp; done) | (simp; omega)))), by (repeat' first | (with_reducible assumption) | (with_reducible exact Blk.new _ _ _) | (with_reducible refine Blk.drew_ ?_) | (with_reducible refine Blk.alloc ?_ _) | (refine Blk.below ?_ (by assumption) (by first | omega | (simp; done) | (simp; omega))))⟩
                    case rest =>
                      clear hw hBU1 hBU2 hBU3
                      obtain ⟨rfl, hw, hBU1, hBU2, hBU3⟩ := hcut
                      go_upto_region 12 with fail
                      go_cut [18] from 19 (fun p w' => p = .bool true ∧ Below w.heap.size w w' ∧ Blk w' w.heap.size 40 #[(Value.bool (a).opaq), (Value.int .i64 (a).id), (Value.string ⟨((a).scheme).toArray⟩), (Value.string ⟨(((a).host).name).toArray⟩), (Value.bool ((a).host).v4), (Value.int .u32 (((a).host).addr : Int)), (Value.int .i64 (a).port)] ∧ Blk w' (w.heap.size + 1) 40 #[(Value.bool (b).opaq), (Value.int .i64 (b).id), (Value.string ⟨((b).scheme).toArray⟩), (Value.string ⟨(((b).host).name).toArray⟩), (Value.bool ((b).host).v4), (Value.int .u32 (((b).host).addr : Int)), (Value.int .i64 (b).port)] ∧ Blk w' (w.heap.size + 2) 40 #[(Value.bool (c).opaq), (Value.int .i64 (c).id), (Value.string ⟨((c).scheme).toArray⟩), (Value.string ⟨(((c).host).name).toArray⟩), (Value.bool ((c).host).v4), (Value.int .u32 (((c).host).addr : Int)), (Value.int .i64 (c).port)])
                      case first =>
                        have hU1l := hBU1.lt
                        have hU1c := hBU1.cell
                        have hU1f := hBU1.frozen
                        have hU2l := hBU2.lt
                        have hU2c := hBU2.cell
                        have hU2f := hBU2.frozen
                        have hU3l := hBU3.lt
                        have hU3c := hBU3.cell
                        have hU3f := hBU3.frozen
                        go_wp2_with (first | (go_at_call 31; refine ( hba.out _).mono ?_; rintro e w1 ⟨rfl, hb⟩; obtain ⟨hc, hfz⟩ := bcell hb; have hz := hb.size; (try simp at hz); (try have hz0 : w.heap.size < w1.heap.size := by omega); (try have hz1 : w.heap.size + 1 < w1.heap.size := by omega); (try have hz2 : w.heap.size + 2 < w1.heap.size := by omega); (try have hz3 : w.heap.size + 3 < w1.heap.size := by omega); (try have hcA := fun o => hc w.heap.size o (by first | omega | (simp; omega))); (try have hcB := fun o => hc (w.heap.size + 1) o (by first | omega | (simp; omega))); (try have hcGg := fun o => hc g o (by first | omega | (simp; omega))); (try have hfGg := fun o => hfz g o (by first | omega | (simp; omega))); (try have hzGg : g < w1.heap.size := by omega); (try have hcGgA := fun o => hc gA o (by first | omega | (simp; omega))); (try have hfGgA := fun o => hfz gA o (by first | omega | (simp; omega))); (try have hzGgA : gA < w1.heap.size := by omega); (try have hcGgB := fun o => hc gB o (by first | omega | (simp; omega))); (try have hfGgB := fun o => hfz gB o (by first | omega | (simp; omega))); (try have hzGgB : gB < w1.heap.size := by omega); (try have hcGgC := fun o => hc gC o (by first | omega | (simp; omega))); (try have hfGgC := fun o => hfz gC o (by first | omega | (simp; omega))); (try have hzGgC : gC < w1.heap.size := by omega); (try have hcGgD := fun o => hc gD o (by first | omega | (simp; omega))); (try have hfGgD := fun o => hfz gD o (by first | omega | (simp; omega))); (try have hzGgD : gD < w1.heap.size := by omega); (try have hcGgE := fun o => hc gE o (by first | omega | (simp; omega))); (try have hfGgE := fun o => hfz gE o (by first | omega | (simp; omega))); (try have hzGgE : gE < w1.heap.size := by omega); (try have hcGgF := fun o => hc gF o (by first | omega | (simp; omega))); (try have hfGgF := fun o => hfz gF o (by first | omega | (simp; omega))); (try have hzGgF : gF < w1.heap.size := by omega); (try have hcGgV := fun o => hc gV o (by first | omega | (simp; omega))); (try have hfGgV := fun o => hfz gV o (by first | omega | (simp; omega))); (try have hzGgV : gV < w1.heap.size := by omega)) | (go_at_call 37; refine ( jba.out _ (by (repeat' first | (with_reducible exact Below.refl _ _) | (with_reducible refine Below.setCell ?_ (by first | omega | (simp; done) | (simp; omega)) _) | (with_reducible refine Below.alloc ?_ (by first | omega | (simp; done) | (simp; omega)) _) | refine below_drewN ?_ _ | refine Below.drew ?_ | (refine below_thru (by assumption) ?_ (by first | omega | (simp; done) | (simp; omega))) | exact Below.refl _ _))).mono ?_; rintro e w1 ⟨rfl, hb⟩; obtain ⟨hc, hfz⟩ := bcell hb; have hz := hb.size; (try simp at hz); (try have hz0 : w.heap.size < w1.heap.size := by omega); (try have hz1 : w.heap.size + 1 < w1.heap.size := by omega); (try have hz2 : w.heap.size + 2 < w1.heap.size := by omega); (try have hz3 : w.heap.size + 3 < w1.heap.size := by omega); (try have hcA := fun o => hc w.heap.size o (by first | omega | (simp; omega))); (try have hcB := fun o => hc (w.heap.size + 1) o (by first | omega | (simp; omega))); (try have hcGg := fun o => hc g o (by first | omega | (simp; omega))); (try have hfGg := fun o => hfz g o (by first | omega | (simp; omega))); (try have hzGg : g < w1.heap.size := by omega); (try have hcGgA := fun o => hc gA o (by first | omega | (simp; omega))); (try have hfGgA := fun o => hfz gA o (by first | omega | (simp; omega))); (try have hzGgA : gA < w1.heap.size := by omega); (try have hcGgB := fun o => hc gB o (by first | omega | (simp; omega))); (try have hfGgB := fun o => hfz gB o (by first | omega | (simp; omega))); (try have hzGgB : gB < w1.heap.size := by omega); (try have hcGgC := fun o => hc gC o (by first | omega | (simp; omega))); (try have hfGgC := fun o => hfz gC o (by first | omega | (simp; omega))); (try have hzGgC : gC < w1.heap.size := by omega); (try have hcGgD := fun o => hc gD o (by first | omega | (simp; omega))); (try have hfGgD := fun o => hfz gD o (by first | omega | (simp; omega))); (try have hzGgD : gD < w1.heap.size := by omega); (try have hcGgE := fun o => hc gE o (by first | omega | (simp; omega))); (try have hfGgE := fun o => hfz gE o (by first | omega | (simp; omega))); (try have hzGgE : gE < w1.heap.size := by omega); (try have hcGgF := fun o => hc gF o (by first | omega | (simp; omega))); (try have hfGgF := fun o => hfz gF o (by first | omega | (simp; omega))); (try have hzGgF : gF < w1.heap.size := by omega); (try have hcGgV := fun o => hc gV o (by first | omega | (simp; omega))); (try have hfGgV := fun o => hfz gV o (by first | omega | (simp; omega))); (try have hzGgV : gV < w1.heap.size := by omega)))
                        go_meet
                        case rel => exact ⟨rfl, by (repeat' first | (with_reducible exact Below.refl _ _) | (with_reducible refine Below.setCell ?_ (by first | omega | (simp; done) | (simp; omega)) _) | (with_reducible refine Below.alloc ?_ (by first | omega | (simp; done) | (simp; omega)) _) | refine below_drewN ?_ _ | refine Below.drew ?_ | (refine below_thru (by assumption) ?_ (by first | omega | (simp; done) | (simp; omega))) | exact Below.refl _ _), by (repeat' first | (with_reducible assumption) | (with_reducible exact Blk.new _ _ _) | (with_reducible refine Blk.drew_ ?_) | (with_reducible refine Blk.alloc ?_ _) | (refine Blk.below ?_ (by assumption) (by first | omega | (simp; done) | (simp; omega)))), by (repeat' first | (with_reducible assumption) | (with_reducible exact Blk.new _ _ _) | (with_reducible refine Blk.drew_ ?_) | (with_reducible refine Blk.alloc ?_ _) | (refine Blk.below ?_ (by assumption) (by first | omega | (simp; done) | (simp; omega)))), by (repeat' first | (with_reducible assumption) | (with_reducible exact Blk.new _ _ _) | (with_reducible refine Blk.drew_ ?_) | (with_reducible refine Blk.alloc ?_ _) | (refine Blk.below ?_ (by assumption) (by first | omega | (simp; done) | (simp; omega))))⟩
                      case rest =>
                        clear hw hBU1 hBU2 hBU3
                        obtain ⟨rfl, hw, hBU1, hBU2, hBU3⟩ := hcut
                        cases ab
                        · cases sab
                          · go_wp2_with fail
                            go_ret
                            exact ⟨rfl, by (repeat' first | (with_reducible exact Below.refl _ _) | (with_reducible refine Below.setCell ?_ (by first | omega | (simp; done) | (simp; omega)) _) | (with_reducible refine Below.alloc ?_ (by first | omega | (simp; done) | (simp; omega)) _) | refine below_drewN ?_ _ | refine Below.drew ?_ | (refine below_thru (by assumption) ?_ (by first | omega | (simp; done) | (simp; omega))) | exact Below.refl _ _)⟩
                          · have f2 := hf2.out rfl
                            subst f2
                            go_wp2_with fail
                            go_ret
                            exact ⟨rfl, by (repeat' first | (with_reducible exact Below.refl _ _) | (with_reducible refine Below.setCell ?_ (by first | omega | (simp; done) | (simp; omega)) _) | (with_reducible refine Below.alloc ?_ (by first | omega | (simp; done) | (simp; omega)) _) | refine below_drewN ?_ _ | refine Below.drew ?_ | (refine below_thru (by assumption) ?_ (by first | omega | (simp; done) | (simp; omega))) | exact Below.refl _ _)⟩
                        · have f1 := hf1.out rfl
                          subst f1
                          cases sab
                          · exact absurd (hf3.out rfl) (by decide)
                          · have f2 := hf2.out rfl
                            subst f2
                            go_wp2_with fail
                            go_ret
                            exact ⟨rfl, by (repeat' first | (with_reducible exact Below.refl _ _) | (with_reducible refine Below.setCell ?_ (by first | omega | (simp; done) | (simp; omega)) _) | (with_reducible refine Below.alloc ?_ (by first | omega | (simp; done) | (simp; omega)) _) | refine below_drewN ?_ _ | refine Below.drew ?_ | (refine below_thru (by assumption) ?_ (by first | omega | (simp; done) | (simp; omega))) | exact Below.refl _ _)⟩
end Go.Proofs.YthmgcnaoionmoaaDoor
