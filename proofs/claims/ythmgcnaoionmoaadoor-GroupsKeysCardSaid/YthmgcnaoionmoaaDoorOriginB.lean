/- Sites of origins: of the program and of the reference. -/
import Derived.Test.YthmgcnaoionmoaaDoorOriginA
namespace Go.Proofs.YthmgcnaoionmoaaDoor
open Go.RowKit
attribute [local irreducible] Calls

structure OFits (o : Gl.Origin) : Prop where
  addr : o.host.addr < 4294967296
  name : o.host.name.length ≤ 1000000
/-- A row of suffixes, few and short. -/
structure Sufs (w : World) (v : Value) (S : List (List UInt8)) : Prop where
  strs : Strs w w.heap.size v S
  few : S.length ≤ 1000000
  short : ∀ s ∈ S, s.length ≤ 1000000
theorem Sufs.below {w w' : World} {v : Value} {S : List (List UInt8)} (h : Sufs w v S) (hb : Below w.heap.size w w') : Sufs w' v S := ⟨(h.strs.keep hb).more hb.size, h.few, h.short⟩

theorem origin_site (o : Gl.Origin) (v : Value) (S : List (List UInt8)) (w : World) (hE : Env w) (ho : OFits o) (hv : Sufs w v S) : Calls Tryd.prog 35 #[(Value.agg #[(Value.bool (o).opaq), (Value.int .i64 (o).id), (Value.string ⟨((o).scheme).toArray⟩), (Value.string ⟨(((o).host).name).toArray⟩), (Value.bool ((o).host).v4), (Value.int .u32 (((o).host).addr : Int)), (Value.int .i64 (o).port)]), v] w (Ret w ((Value.string ⟨(Gl.originSite o S).toArray⟩))) := by
  have hR : Gl.originSite o S = if o.opaq then Gl.nullT else Gl.siteOf o.host S := rfl
  generalize Gl.originSite o S = R at *
  obtain ⟨q, i, s, h, p⟩ := o
  simp only at hR ⊢
  obtain ⟨hvA, hvc, hve, hv1, hv2, _⟩ := hv.strs
  cases q
  · have hs : ∀ W, Below w.heap.size w W → Calls Tryd.prog 67 #[(Value.agg #[(Value.string ⟨((h).name).toArray⟩), (Value.bool (h).v4), (Value.int .u32 ((h).addr : Int))]), v] W (Ret W ((Value.string ⟨(R).toArray⟩))) := fun W hW => by
      rw [hR]
      have hvW := hv.below hW
      exact host_site h v S W (hE.below hW) ho.addr ho.name hvW.strs hvW.few hvW.short
    subst hve
    clear hR
    replace hs := Lib.hid hs
    go_enter Tryd.func35, Tryd.ntmps35
    go_wp2_with (go_at_call 67; refine ( hs.out _ (by (repeat' first | (with_reducible exact Below.refl _ _) | (with_reducible refine Below.setCell ?_ (by first | omega | (simp; done) | (simp; omega)) _) | (with_reducible refine Below.alloc ?_ (by first | omega | (simp; done) | (simp; omega)) _) | refine below_drewN ?_ _ | refine Below.drew ?_ | (refine below_thru (by assumption) ?_ (by first | omega | (simp; done) | (simp; omega))) | exact Below.refl _ _))).mono ?_; rintro e w1 ⟨rfl, hb⟩; obtain ⟨hc, hfz⟩ := bcell hb; have hz := hb.size; (try simp at hz); (try have hz0 : w.heap.size < w1.heap.size := by omega); (try have hz1 : w.heap.size + 1 < w1.heap.size := by omega); (try have hz2 : w.heap.size + 2 < w1.heap.size := by omega); (try have hz3 : w.heap.size + 3 < w1.heap.size := by omega); (try have hcA := fun o => hc w.heap.size o (by first | omega | (simp; omega))); (try have hcB := fun o => hc (w.heap.size + 1) o (by first | omega | (simp; omega))); (try have hcGg := fun o => hc g o (by first | omega | (simp; omega))); (try have hfGg := fun o => hfz g o (by first | omega | (simp; omega))); (try have hzGg : g < w1.heap.size := by omega); (try have hcGgA := fun o => hc gA o (by first | omega | (simp; omega))); (try have hfGgA := fun o => hfz gA o (by first | omega | (simp; omega))); (try have hzGgA : gA < w1.heap.size := by omega); (try have hcGgB := fun o => hc gB o (by first | omega | (simp; omega))); (try have hfGgB := fun o => hfz gB o (by first | omega | (simp; omega))); (try have hzGgB : gB < w1.heap.size := by omega); (try have hcGgV := fun o => hc gV o (by first | omega | (simp; omega))); (try have hfGgV := fun o => hfz gV o (by first | omega | (simp; omega))); (try have hzGgV : gV < w1.heap.size := by omega))
    go_ret
    exact ⟨by rfl, by (repeat' first | (with_reducible exact Below.refl _ _) | (with_reducible refine Below.setCell ?_ (by first | omega | (simp; done) | (simp; omega)) _) | (with_reducible refine Below.alloc ?_ (by first | omega | (simp; done) | (simp; omega)) _) | refine below_drewN ?_ _ | refine Below.drew ?_ | (refine below_thru (by assumption) ?_ (by first | omega | (simp; done) | (simp; omega))) | exact Below.refl _ _)⟩
  · subst hve
    have hf : Hid (R = [110, 117, 108, 108]) := Lib.hid (by rw [hR]; rfl)
    clear hR
    go_enter Tryd.func35, Tryd.ntmps35
    go_wp2
    go_ret
    exact ⟨by rw [hf.out] <;> rfl, by (repeat' first | (with_reducible exact Below.refl _ _) | (with_reducible refine Below.setCell ?_ (by first | omega | (simp; done) | (simp; omega)) _) | (with_reducible refine Below.alloc ?_ (by first | omega | (simp; done) | (simp; omega)) _) | refine below_drewN ?_ _ | refine Below.drew ?_ | (refine below_thru (by assumption) ?_ (by first | omega | (simp; done) | (simp; omega))) | exact Below.refl _ _)⟩
set_option maxHeartbeats 1000000 in
theorem origin_same_site (a b : Gl.Origin) (v : Value) (S : List (List UInt8)) (w : World) (hE : Env w) (ha : OFits a) (hb0 : OFits b) (hv : Sufs w v S) : Calls Tryd.prog 37 #[(Value.agg #[(Value.bool (a).opaq), (Value.int .i64 (a).id), (Value.string ⟨((a).scheme).toArray⟩), (Value.string ⟨(((a).host).name).toArray⟩), (Value.bool ((a).host).v4), (Value.int .u32 (((a).host).addr : Int)), (Value.int .i64 (a).port)]), (Value.agg #[(Value.bool (b).opaq), (Value.int .i64 (b).id), (Value.string ⟨((b).scheme).toArray⟩), (Value.string ⟨(((b).host).name).toArray⟩), (Value.bool ((b).host).v4), (Value.int .u32 (((b).host).addr : Int)), (Value.int .i64 (b).port)]), v] w (Ret w (.bool (Gl.sameSite a b S))) := by
  have hR : Gl.sameSite a b S = if a.opaq || b.opaq then Gl.originSame a b else Gl.originSite a S == Gl.originSite b S := rfl
  have hsame := fun W => origin_same a b W
  have hsa := fun W (hW : Below w.heap.size w W) => origin_site a v S W (hE.below hW) ha (hv.below hW)
  have hsb := fun W (hW : Below w.heap.size w W) => origin_site b v S W (hE.below hW) hb0 (hv.below hW)
  generalize Gl.sameSite a b S = R at *
  generalize Gl.originSame a b = R1 at *
  generalize Gl.originSite a S = xa at *
  generalize Gl.originSite b S = xb at *
  obtain ⟨hvA, hvc, rfl, hv1, hv2, _⟩ := hv.strs
  clear hv
  obtain ⟨q, i, s, h, p⟩ := a
  obtain ⟨r, j, t, g, o⟩ := b
  simp only at hR hsame hsa hsb ⊢
  replace hsame := Lib.hid hsame
  replace hsa := Lib.hid hsa
  replace hsb := Lib.hid hsb
  by_cases hq : (q || r) = true
  · have hf : Hid (R1 = R) := Lib.hid (by rw [hR, if_pos hq])
    rw [hf.out] at hsame
    clear hR
    cases q <;> cases r
    · cases hq
    all_goals
      go_enter Tryd.func37, Tryd.ntmps37
      go_wp2_with (go_at_call 31; refine ( hsame.out _).mono ?_; rintro e w1 ⟨rfl, hb⟩; obtain ⟨hc, hfz⟩ := bcell hb; have hz := hb.size; (try simp at hz); (try have hz0 : w.heap.size < w1.heap.size := by omega); (try have hz1 : w.heap.size + 1 < w1.heap.size := by omega); (try have hz2 : w.heap.size + 2 < w1.heap.size := by omega); (try have hz3 : w.heap.size + 3 < w1.heap.size := by omega); (try have hcA := fun o => hc w.heap.size o (by first | omega | (simp; omega))); (try have hcB := fun o => hc (w.heap.size + 1) o (by first | omega | (simp; omega))); (try have hcGg := fun o => hc g o (by first | omega | (simp; omega))); (try have hfGg := fun o => hfz g o (by first | omega | (simp; omega))); (try have hzGg : g < w1.heap.size := by omega); (try have hcGgA := fun o => hc gA o (by first | omega | (simp; omega))); (try have hfGgA := fun o => hfz gA o (by first | omega | (simp; omega))); (try have hzGgA : gA < w1.heap.size := by omega); (try have hcGgB := fun o => hc gB o (by first | omega | (simp; omega))); (try have hfGgB := fun o => hfz gB o (by first | omega | (simp; omega))); (try have hzGgB : gB < w1.heap.size := by omega); (try have hcGgV := fun o => hc gV o (by first | omega | (simp; omega))); (try have hfGgV := fun o => hfz gV o (by first | omega | (simp; omega))); (try have hzGgV : gV < w1.heap.size := by omega))
      go_ret
      exact ⟨by rfl, by (repeat' first | (with_reducible exact Below.refl _ _) | (with_reducible refine Below.setCell ?_ (by first | omega | (simp; done) | (simp; omega)) _) | (with_reducible refine Below.alloc ?_ (by first | omega | (simp; done) | (simp; omega)) _) | refine below_drewN ?_ _ | refine Below.drew ?_ | (refine below_thru (by assumption) ?_ (by first | omega | (simp; done) | (simp; omega))) | exact Below.refl _ _)⟩
  · have hf : Hid ((xa == xb) = R) := Lib.hid (by rw [hR, if_neg hq])
    have hf1 := hf.out
    clear hR hf hsame
    cases q <;> cases r
    · go_enter Tryd.func37, Tryd.ntmps37
      go_wp2_with fail
      generalize hW0 : ((w.alloc (Obj.cells #[(.bool false), (.int .i64 i), (Value.string ⟨(s).toArray⟩), (Value.string ⟨((h).name).toArray⟩), (Value.bool (h).v4), (Value.int .u32 ((h).addr : Int)), (.int .i64 p)] 40)).alloc (Obj.cells #[(.bool false), (.int .i64 j), (Value.string ⟨(t).toArray⟩), (Value.string ⟨((g).name).toArray⟩), (Value.bool (g).v4), (Value.int .u32 ((g).addr : Int)), (.int .i64 o)] 40)) = W0
      have hw0 : Below w.heap.size w W0 := by rw [← hW0]; (repeat' first | (with_reducible exact Below.refl _ _) | (with_reducible refine Below.setCell ?_ (by first | omega | (simp; done) | (simp; omega)) _) | (with_reducible refine Below.alloc ?_ (by first | omega | (simp; done) | (simp; omega)) _) | refine below_drewN ?_ _ | refine Below.drew ?_ | (refine below_thru (by assumption) ?_ (by first | omega | (simp; done) | (simp; omega))) | exact Below.refl _ _)
      have hBA : Blk W0 (w.heap.size) 40 #[(.bool false), (.int .i64 i), (Value.string ⟨(s).toArray⟩), (Value.string ⟨((h).name).toArray⟩), (Value.bool (h).v4), (Value.int .u32 ((h).addr : Int)), (.int .i64 p)] := by rw [← hW0]; exact (Blk.alloc (Blk.new _ _ _) _)
      have hBB : Blk W0 (w.heap.size + 1) 40 #[(.bool false), (.int .i64 j), (Value.string ⟨(t).toArray⟩), (Value.string ⟨((g).name).toArray⟩), (Value.bool (g).v4), (Value.int .u32 ((g).addr : Int)), (.int .i64 o)] := by rw [← hW0]; exact (by have := Blk.new (w.alloc (Obj.cells #[(.bool false), (.int .i64 i), (Value.string ⟨(s).toArray⟩), (Value.string ⟨((h).name).toArray⟩), (Value.bool (h).v4), (Value.int .u32 ((h).addr : Int)), (.int .i64 p)] 40)) 40 #[(.bool false), (.int .i64 j), (Value.string ⟨(t).toArray⟩), (Value.string ⟨((g).name).toArray⟩), (Value.bool (g).v4), (Value.int .u32 ((g).addr : Int)), (.int .i64 o)]; simpa [World.size_alloc] using this)
      have hAl := hBA.lt
      have hAc := hBA.cell
      have hAf := hBA.frozen
      have hBl := hBB.lt
      have hBc := hBB.cell
      have hBf := hBB.frozen
      clear hW0
      go_region_held3 (fun W => Below w.heap.size w W ∧ w.heap.size < W.heap.size ∧ w.heap.size + 1 < W.heap.size ∧ (∀ n0, W.cell? ⟨w.heap.size, n0, none⟩ = (#[(.bool false), (.int .i64 i), (Value.string ⟨(s).toArray⟩), (Value.string ⟨((h).name).toArray⟩), (Value.bool (h).v4), (Value.int .u32 ((h).addr : Int)), (.int .i64 p)] : Array Value)[n0]?) ∧ (∀ n0, W.cell? ⟨w.heap.size + 1, n0, none⟩ = (#[(.bool false), (.int .i64 j), (Value.string ⟨(t).toArray⟩), (Value.string ⟨((g).name).toArray⟩), (Value.bool (g).v4), (Value.int .u32 ((g).addr : Int)), (.int .i64 o)] : Array Value)[n0]?)) ((refine ⟨by (repeat' first | (with_reducible exact Below.refl _ _) | (with_reducible refine Below.setCell ?_ (by first | omega | (simp; done) | (simp; omega)) _) | (with_reducible refine Below.alloc ?_ (by first | omega | (simp; done) | (simp; omega)) _) | refine below_drewN ?_ _ | refine Below.drew ?_ | (refine below_thru (by assumption) ?_ (by first | omega | (simp; done) | (simp; omega))) | exact Below.refl _ _), ?_⟩; simp [*]))
        (first | (go_at_call 35; refine ( hsa.out _ (by (repeat' first | (with_reducible exact Below.refl _ _) | (with_reducible refine Below.setCell ?_ (by first | omega | (simp; done) | (simp; omega)) _) | (with_reducible refine Below.alloc ?_ (by first | omega | (simp; done) | (simp; omega)) _) | refine below_drewN ?_ _ | refine Below.drew ?_ | (refine below_thru (by assumption) ?_ (by first | omega | (simp; done) | (simp; omega))) | exact Below.refl _ _))).mono ?_; rintro e w1 ⟨rfl, hb⟩; obtain ⟨hc, hfz⟩ := bcell hb; have hz := hb.size; (try simp at hz); (try have hz0 : w.heap.size < w1.heap.size := by omega); (try have hz1 : w.heap.size + 1 < w1.heap.size := by omega); (try have hz2 : w.heap.size + 2 < w1.heap.size := by omega); (try have hz3 : w.heap.size + 3 < w1.heap.size := by omega); (try have hcA := fun o => hc w.heap.size o (by first | omega | (simp; omega))); (try have hcB := fun o => hc (w.heap.size + 1) o (by first | omega | (simp; omega))); (try have hcGg := fun o => hc g o (by first | omega | (simp; omega))); (try have hfGg := fun o => hfz g o (by first | omega | (simp; omega))); (try have hzGg : g < w1.heap.size := by omega); (try have hcGgA := fun o => hc gA o (by first | omega | (simp; omega))); (try have hfGgA := fun o => hfz gA o (by first | omega | (simp; omega))); (try have hzGgA : gA < w1.heap.size := by omega); (try have hcGgB := fun o => hc gB o (by first | omega | (simp; omega))); (try have hfGgB := fun o => hfz gB o (by first | omega | (simp; omega))); (try have hzGgB : gB < w1.heap.size := by omega); (try have hcGgV := fun o => hc gV o (by first | omega | (simp; omega))); (try have hfGgV := fun o => hfz gV o (by first | omega | (simp; omega))); (try have hzGgV : gV < w1.heap.size := by omega)) | (go_at_call 35; refine ( hsb.out _ (by (repeat' first | (with_reducible exact Below.refl _ _) | (with_reducible refine Below.setCell ?_ (by first | omega | (simp; done) | (simp; omega)) _) | (with_reducible refine Below.alloc ?_ (by first | omega | (simp; done) | (simp; omega)) _) | refine below_drewN ?_ _ | refine Below.drew ?_ | (refine below_thru (by assumption) ?_ (by first | omega | (simp; done) | (simp; omega))) | exact Below.refl _ _))).mono ?_; rintro e w1 ⟨rfl, hb⟩; obtain ⟨hc, hfz⟩ := bcell hb; have hz := hb.size; (try simp at hz); (try have hz0 : w.heap.size < w1.heap.size := by omega); (try have hz1 : w.heap.size + 1 < w1.heap.size := by omega); (try have hz2 : w.heap.size + 2 < w1.heap.size := by omega); (try have hz3 : w.heap.size + 3 < w1.heap.size := by omega); (try have hcA := fun o => hc w.heap.size o (by first | omega | (simp; omega))); (try have hcB := fun o => hc (w.heap.size + 1) o (by first | omega | (simp; omega))); (try have hcGg := fun o => hc g o (by first | omega | (simp; omega))); (try have hfGg := fun o => hfz g o (by first | omega | (simp; omega))); (try have hzGg : g < w1.heap.size := by omega); (try have hcGgA := fun o => hc gA o (by first | omega | (simp; omega))); (try have hfGgA := fun o => hfz gA o (by first | omega | (simp; omega))); (try have hzGgA : gA < w1.heap.size := by omega); (try have hcGgB := fun o => hc gB o (by first | omega | (simp; omega))); (try have hfGgB := fun o => hfz gB o (by first | omega | (simp; omega))); (try have hzGgB : gB < w1.heap.size := by omega); (try have hcGgV := fun o => hc gV o (by first | omega | (simp; omega))); (try have hfGgV := fun o => hfz gV o (by first | omega | (simp; omega))); (try have hzGgV : gV < w1.heap.size := by omega)))
      all_goals go_wp2_with fail
      all_goals go_ret
      all_goals exact ⟨rfl, by (repeat' first | (with_reducible exact Below.refl _ _) | (with_reducible refine Below.setCell ?_ (by first | omega | (simp; done) | (simp; omega)) _) | (with_reducible refine Below.alloc ?_ (by first | omega | (simp; done) | (simp; omega)) _) | refine below_drewN ?_ _ | refine Below.drew ?_ | (refine below_thru (by assumption) ?_ (by first | omega | (simp; done) | (simp; omega))) | exact Below.refl _ _)⟩
    · exact absurd rfl hq
    · exact absurd rfl hq
    · exact absurd rfl hq

theorem ref4_site (o : Gl.Origin) (v : Value) (S : List (List UInt8)) (w : World) (hE : Env w) (ho : OFits o) (hv : Sufs w v S) : Calls Tryd.prog 36 #[(Value.agg #[(Value.bool (o).opaq), (Value.int .i64 (o).id), (Value.string ⟨((o).scheme).toArray⟩), (Value.string ⟨(((o).host).name).toArray⟩), (Value.bool ((o).host).v4), (Value.int .u32 (((o).host).addr : Int)), (Value.int .i64 (o).port)]), v] w (Ret w ((Value.string ⟨(Gl.originSite o S).toArray⟩))) := by
  have hR : Gl.originSite o S = if o.opaq then Gl.nullT else Gl.siteOf o.host S := rfl
  generalize Gl.originSite o S = R at *
  obtain ⟨q, i, s, h, p⟩ := o
  simp only at hR ⊢
  obtain ⟨hvA, hvc, hve, hv1, hv2, _⟩ := hv.strs
  cases q
  · have hs : ∀ W, Below w.heap.size w W → Calls Tryd.prog 68 #[(Value.agg #[(Value.string ⟨((h).name).toArray⟩), (Value.bool (h).v4), (Value.int .u32 ((h).addr : Int))]), v] W (Ret W ((Value.string ⟨(R).toArray⟩))) := fun W hW => by
      rw [hR]
      have hvW := hv.below hW
      exact ref2_site h v S W (hE.below hW) ho.addr ho.name hvW.strs hvW.few hvW.short
    subst hve
    clear hR
    replace hs := Lib.hid hs
    go_enter Tryd.func36, Tryd.ntmps36
    go_wp2_with (go_at_call 68; refine ( hs.out _ (by (repeat' first | (with_reducible exact Below.refl _ _) | (with_reducible refine Below.setCell ?_ (by first | omega | (simp; done) | (simp; omega)) _) | (with_reducible refine Below.alloc ?_ (by first | omega | (simp; done) | (simp; omega)) _) | refine below_drewN ?_ _ | refine Below.drew ?_ | (refine below_thru (by assumption) ?_ (by first | omega | (simp; done) | (simp; omega))) | exact Below.refl _ _))).mono ?_; rintro e w1 ⟨rfl, hb⟩; obtain ⟨hc, hfz⟩ := bcell hb; have hz := hb.size; (try simp at hz); (try have hz0 : w.heap.size < w1.heap.size := by omega); (try have hz1 : w.heap.size + 1 < w1.heap.size := by omega); (try have hz2 : w.heap.size + 2 < w1.heap.size := by omega); (try have hz3 : w.heap.size + 3 < w1.heap.size := by omega); (try have hcA := fun o => hc w.heap.size o (by first | omega | (simp; omega))); (try have hcB := fun o => hc (w.heap.size + 1) o (by first | omega | (simp; omega))); (try have hcGg := fun o => hc g o (by first | omega | (simp; omega))); (try have hfGg := fun o => hfz g o (by first | omega | (simp; omega))); (try have hzGg : g < w1.heap.size := by omega); (try have hcGgA := fun o => hc gA o (by first | omega | (simp; omega))); (try have hfGgA := fun o => hfz gA o (by first | omega | (simp; omega))); (try have hzGgA : gA < w1.heap.size := by omega); (try have hcGgB := fun o => hc gB o (by first | omega | (simp; omega))); (try have hfGgB := fun o => hfz gB o (by first | omega | (simp; omega))); (try have hzGgB : gB < w1.heap.size := by omega); (try have hcGgV := fun o => hc gV o (by first | omega | (simp; omega))); (try have hfGgV := fun o => hfz gV o (by first | omega | (simp; omega))); (try have hzGgV : gV < w1.heap.size := by omega))
    go_ret
    exact ⟨by rfl, by (repeat' first | (with_reducible exact Below.refl _ _) | (with_reducible refine Below.setCell ?_ (by first | omega | (simp; done) | (simp; omega)) _) | (with_reducible refine Below.alloc ?_ (by first | omega | (simp; done) | (simp; omega)) _) | refine below_drewN ?_ _ | refine Below.drew ?_ | (refine below_thru (by assumption) ?_ (by first | omega | (simp; done) | (simp; omega))) | exact Below.refl _ _)⟩
  · subst hve
    have hf : Hid (R = [110, 117, 108, 108]) := Lib.hid (by rw [hR]; rfl)
    clear hR
    go_enter Tryd.func36, Tryd.ntmps36
    go_wp2
    go_ret
    exact ⟨by rw [hf.out] <;> rfl, by (repeat' first | (with_reducible exact Below.refl _ _) | (with_reducible refine Below.setCell ?_ (by first | omega | (simp; done) | (simp; omega)) _) | (with_reducible refine Below.alloc ?_ (by first | omega | (simp; done) | (simp; omega)) _) | refine below_drewN ?_ _ | refine Below.drew ?_ | (refine below_thru (by assumption) ?_ (by first | omega | (simp; done) | (simp; omega))) | exact Below.refl _ _)⟩
set_option maxHeartbeats 1000000 in
theorem ref4_same_site (a b : Gl.Origin) (v : Value) (S : List (List UInt8)) (w : World) (hE : Env w) (ha : OFits a) (hb0 : OFits b) (hv : Sufs w v S) : Calls Tryd.prog 38 #[(Value.agg #[(Value.bool (a).opaq), (Value.int .i64 (a).id), (Value.string ⟨((a).scheme).toArray⟩), (Value.string ⟨(((a).host).name).toArray⟩), (Value.bool ((a).host).v4), (Value.int .u32 (((a).host).addr : Int)), (Value.int .i64 (a).port)]), (Value.agg #[(Value.bool (b).opaq), (Value.int .i64 (b).id), (Value.string ⟨((b).scheme).toArray⟩), (Value.string ⟨(((b).host).name).toArray⟩), (Value.bool ((b).host).v4), (Value.int .u32 (((b).host).addr : Int)), (Value.int .i64 (b).port)]), v] w (Ret w (.bool (Gl.sameSite a b S))) := by
  have hR : Gl.sameSite a b S = if a.opaq || b.opaq then Gl.originSame a b else Gl.originSite a S == Gl.originSite b S := rfl
  have hsame := fun W => ref4_same a b W
  have hsa := fun W (hW : Below w.heap.size w W) => ref4_site a v S W (hE.below hW) ha (hv.below hW)
  have hsb := fun W (hW : Below w.heap.size w W) => ref4_site b v S W (hE.below hW) hb0 (hv.below hW)
  generalize Gl.sameSite a b S = R at *
  generalize Gl.originSame a b = R1 at *
  generalize Gl.originSite a S = xa at *
  generalize Gl.originSite b S = xb at *
  obtain ⟨hvA, hvc, rfl, hv1, hv2, _⟩ := hv.strs
  clear hv
  obtain ⟨q, i, s, h, p⟩ := a
  obtain ⟨r, j, t, g, o⟩ := b
  simp only at hR hsame hsa hsb ⊢
  replace hsame := Lib.hid hsame
  replace hsa := Lib.hid hsa
  replace hsb := Lib.hid hsb
  by_cases hq : (q || r) = true
  · have hf : Hid (R1 = R) := Lib.hid (by rw [hR, if_pos hq])
    rw [hf.out] at hsame
    clear hR
    cases q <;> cases r
    · cases hq
    all_goals
      go_enter Tryd.func38, Tryd.ntmps38
      go_wp2_with (go_at_call 32; refine ( hsame.out _).mono ?_; rintro e w1 ⟨rfl, hb⟩; obtain ⟨hc, hfz⟩ := bcell hb; have hz := hb.size; (try simp at hz); (try have hz0 : w.heap.size < w1.heap.size := by omega); (try have hz1 : w.heap.size + 1 < w1.heap.size := by omega); (try have hz2 : w.heap.size + 2 < w1.heap.size := by omega); (try have hz3 : w.heap.size + 3 < w1.heap.size := by omega); (try have hcA := fun o => hc w.heap.size o (by first | omega | (simp; omega))); (try have hcB := fun o => hc (w.heap.size + 1) o (by first | omega | (simp; omega))); (try have hcGg := fun o => hc g o (by first | omega | (simp; omega))); (try have hfGg := fun o => hfz g o (by first | omega | (simp; omega))); (try have hzGg : g < w1.heap.size := by omega); (try have hcGgA := fun o => hc gA o (by first | omega | (simp; omega))); (try have hfGgA := fun o => hfz gA o (by first | omega | (simp; omega))); (try have hzGgA : gA < w1.heap.size := by omega); (try have hcGgB := fun o => hc gB o (by first | omega | (simp; omega))); (try have hfGgB := fun o => hfz gB o (by first | omega | (simp; omega))); (try have hzGgB : gB < w1.heap.size := by omega); (try have hcGgV := fun o => hc gV o (by first | omega | (simp; omega))); (try have hfGgV := fun o => hfz gV o (by first | omega | (simp; omega))); (try have hzGgV : gV < w1.heap.size := by omega))
      go_ret
      exact ⟨by rfl, by (repeat' first | (with_reducible exact Below.refl _ _) | (with_reducible refine Below.setCell ?_ (by first | omega | (simp; done) | (simp; omega)) _) | (with_reducible refine Below.alloc ?_ (by first | omega | (simp; done) | (simp; omega)) _) | refine below_drewN ?_ _ | refine Below.drew ?_ | (refine below_thru (by assumption) ?_ (by first | omega | (simp; done) | (simp; omega))) | exact Below.refl _ _)⟩
  · have hf : Hid ((xa == xb) = R) := Lib.hid (by rw [hR, if_neg hq])
    have hf1 := hf.out
    clear hR hf hsame
    cases q <;> cases r
    · go_enter Tryd.func38, Tryd.ntmps38
      go_wp2_with fail
      generalize hW0 : ((w.alloc (Obj.cells #[(.bool false), (.int .i64 i), (Value.string ⟨(s).toArray⟩), (Value.string ⟨((h).name).toArray⟩), (Value.bool (h).v4), (Value.int .u32 ((h).addr : Int)), (.int .i64 p)] 40)).alloc (Obj.cells #[(.bool false), (.int .i64 j), (Value.string ⟨(t).toArray⟩), (Value.string ⟨((g).name).toArray⟩), (Value.bool (g).v4), (Value.int .u32 ((g).addr : Int)), (.int .i64 o)] 40)) = W0
      have hw0 : Below w.heap.size w W0 := by rw [← hW0]; (repeat' first | (with_reducible exact Below.refl _ _) | (with_reducible refine Below.setCell ?_ (by first | omega | (simp; done) | (simp; omega)) _) | (with_reducible refine Below.alloc ?_ (by first | omega | (simp; done) | (simp; omega)) _) | refine below_drewN ?_ _ | refine Below.drew ?_ | (refine below_thru (by assumption) ?_ (by first | omega | (simp; done) | (simp; omega))) | exact Below.refl _ _)
      have hBA : Blk W0 (w.heap.size) 40 #[(.bool false), (.int .i64 i), (Value.string ⟨(s).toArray⟩), (Value.string ⟨((h).name).toArray⟩), (Value.bool (h).v4), (Value.int .u32 ((h).addr : Int)), (.int .i64 p)] := by rw [← hW0]; exact (Blk.alloc (Blk.new _ _ _) _)
      have hBB : Blk W0 (w.heap.size + 1) 40 #[(.bool false), (.int .i64 j), (Value.string ⟨(t).toArray⟩), (Value.string ⟨((g).name).toArray⟩), (Value.bool (g).v4), (Value.int .u32 ((g).addr : Int)), (.int .i64 o)] := by rw [← hW0]; exact (by have := Blk.new (w.alloc (Obj.cells #[(.bool false), (.int .i64 i), (Value.string ⟨(s).toArray⟩), (Value.string ⟨((h).name).toArray⟩), (Value.bool (h).v4), (Value.int .u32 ((h).addr : Int)), (.int .i64 p)] 40)) 40 #[(.bool false), (.int .i64 j), (Value.string ⟨(t).toArray⟩), (Value.string ⟨((g).name).toArray⟩), (Value.bool (g).v4), (Value.int .u32 ((g).addr : Int)), (.int .i64 o)]; simpa [World.size_alloc] using this)
      have hAl := hBA.lt
      have hAc := hBA.cell
      have hAf := hBA.frozen
      have hBl := hBB.lt
      have hBc := hBB.cell
      have hBf := hBB.frozen
      clear hW0
      go_region_held3 (fun W => Below w.heap.size w W ∧ w.heap.size < W.heap.size ∧ w.heap.size + 1 < W.heap.size ∧ (∀ n0, W.cell? ⟨w.heap.size, n0, none⟩ = (#[(.bool false), (.int .i64 i), (Value.string ⟨(s).toArray⟩), (Value.string ⟨((h).name).toArray⟩), (Value.bool (h).v4), (Value.int .u32 ((h).addr : Int)), (.int .i64 p)] : Array Value)[n0]?) ∧ (∀ n0, W.cell? ⟨w.heap.size + 1, n0, none⟩ = (#[(.bool false), (.int .i64 j), (Value.string ⟨(t).toArray⟩), (Value.string ⟨((g).name).toArray⟩), (Value.bool (g).v4), (Value.int .u32 ((g).addr : Int)), (.int .i64 o)] : Array Value)[n0]?)) ((refine ⟨by (repeat' first | (with_reducible exact Below.refl _ _) | (with_reducible refine Below.setCell ?_ (by first | omega | (simp; done) | (simp; omega)) _) | (with_reducible refine Below.alloc ?_ (by first | omega | (simp; done) | (simp; omega)) _) | refine below_drewN ?_ _ | refine Below.drew ?_ | (refine below_thru (by assumption) ?_ (by first | omega | (simp; done) | (simp; omega))) | exact Below.refl _ _), ?_⟩; simp [*]))
        (first | (go_at_call 36; refine ( hsa.out _ (by (repeat' first | (with_reducible exact Below.refl _ _) | (with_reducible refine Below.setCell ?_ (by first | omega | (simp; done) | (simp; omega)) _) | (with_reducible refine Below.alloc ?_ (by first | omega | (simp; done) | (simp; omega)) _) | refine below_drewN ?_ _ | refine Below.drew ?_ | (refine below_thru (by assumption) ?_ (by first | omega | (simp; done) | (simp; omega))) | exact Below.refl _ _))).mono ?_; rintro e w1 ⟨rfl, hb⟩; obtain ⟨hc, hfz⟩ := bcell hb; have hz := hb.size; (try simp at hz); (try have hz0 : w.heap.size < w1.heap.size := by omega); (try have hz1 : w.heap.size + 1 < w1.heap.size := by omega); (try have hz2 : w.heap.size + 2 < w1.heap.size := by omega); (try have hz3 : w.heap.size + 3 < w1.heap.size := by omega); (try have hcA := fun o => hc w.heap.size o (by first | omega | (simp; omega))); (try have hcB := fun o => hc (w.heap.size + 1) o (by first | omega | (simp; omega))); (try have hcGg := fun o => hc g o (by first | omega | (simp; omega))); (try have hfGg := fun o => hfz g o (by first | omega | (simp; omega))); (try have hzGg : g < w1.heap.size := by omega); (try have hcGgA := fun o => hc gA o (by first | omega | (simp; omega))); (try have hfGgA := fun o => hfz gA o (by first | omega | (simp; omega))); (try have hzGgA : gA < w1.heap.size := by omega); (try have hcGgB := fun o => hc gB o (by first | omega | (simp; omega))); (try have hfGgB := fun o => hfz gB o (by first | omega | (simp; omega))); (try have hzGgB : gB < w1.heap.size := by omega); (try have hcGgV := fun o => hc gV o (by first | omega | (simp; omega))); (try have hfGgV := fun o => hfz gV o (by first | omega | (simp; omega))); (try have hzGgV : gV < w1.heap.size := by omega)) | (go_at_call 36; refine ( hsb.out _ (by (repeat' first | (with_reducible exact Below.refl _ _) | (with_reducible refine Below.setCell ?_ (by first | omega | (simp; done) | (simp; omega)) _) | (with_reducible refine Below.alloc ?_ (by first | omega | (simp; done) | (simp; omega)) _) | refine below_drewN ?_ _ | refine Below.drew ?_ | (refine below_thru (by assumption) ?_ (by first | omega | (simp; done) | (simp; omega))) | exact Below.refl _ _))).mono ?_; rintro e w1 ⟨rfl, hb⟩; obtain ⟨hc, hfz⟩ := bcell hb; have hz := hb.size; (try simp at hz); (try have hz0 : w.heap.size < w1.heap.size := by omega); (try have hz1 : w.heap.size + 1 < w1.heap.size := by omega); (try have hz2 : w.heap.size + 2 < w1.heap.size := by omega); (try have hz3 : w.heap.size + 3 < w1.heap.size := by omega); (try have hcA := fun o => hc w.heap.size o (by first | omega | (simp; omega))); (try have hcB := fun o => hc (w.heap.size + 1) o (by first | omega | (simp; omega))); (try have hcGg := fun o => hc g o (by first | omega | (simp; omega))); (try have hfGg := fun o => hfz g o (by first | omega | (simp; omega))); (try have hzGg : g < w1.heap.size := by omega); (try have hcGgA := fun o => hc gA o (by first | omega | (simp; omega))); (try have hfGgA := fun o => hfz gA o (by first | omega | (simp; omega))); (try have hzGgA : gA < w1.heap.size := by omega); (try have hcGgB := fun o => hc gB o (by first | omega | (simp; omega))); (try have hfGgB := fun o => hfz gB o (by first | omega | (simp; omega))); (try have hzGgB : gB < w1.heap.size := by omega); (try have hcGgV := fun o => hc gV o (by first | omega | (simp; omega))); (try have hfGgV := fun o => hfz gV o (by first | omega | (simp; omega))); (try have hzGgV : gV < w1.heap.size := by omega)))
      all_goals go_wp2_with fail
      all_goals go_ret
      all_goals exact ⟨rfl, by (repeat' first | (with_reducible exact Below.refl _ _) | (with_reducible refine Below.setCell ?_ (by first | omega | (simp; done) | (simp; omega)) _) | (with_reducible refine Below.alloc ?_ (by first | omega | (simp; done) | (simp; omega)) _) | refine below_drewN ?_ _ | refine Below.drew ?_ | (refine below_thru (by assumption) ?_ (by first | omega | (simp; done) | (simp; omega))) | exact Below.refl _ _)⟩
    · exact absurd rfl hq
    · exact absurd rfl hq
    · exact absurd rfl hq
end Go.Proofs.YthmgcnaoionmoaaDoor
