/- The law GroupsKeys: its walk, its row and its card. -/
import Derived.Test.YthmgcnaoionmoaaDoorAwake17
import Derived.Deep.RegionHeld3
import Derived.Test.YthmgcnaoionmoaaDoorRows0
import Derived.Test.YthmgcnaoionmoaaDoorAwake4
import Derived.SliceStrings

namespace Go.Proofs.YthmgcnaoionmoaaDoor
open Go.RowKit
attribute [local irreducible] Calls
set_option maxHeartbeats 8000000 in
set_option maxRecDepth 100000 in
theorem law17_keys (o : Gl.Origin) (iso : Bool) (v : Value) (S : List (List UInt8)) (w : World) (hE : Env w) (ha0 : o.host.addr < 4294967296) (hid : -9223372036854775808 ≤ o.id ∧ o.id ≤ 9223372036854775807) (hop : -9223372036854775808 ≤ o.port ∧ o.port ≤ 9223372036854775807) (has : o.scheme.length ≤ 4611686018427387904) (hv : Strs w w.heap.size v S) :
    Calls Tryd.prog 17 #[(Value.agg #[(Value.bool (o).opaq), (Value.int .i64 (o).id), (Value.string ⟨((o).scheme).toArray⟩), (Value.string ⟨(((o).host).name).toArray⟩), (Value.bool ((o).host).v4), (Value.int .u32 (((o).host).addr : Int)), (Value.int .i64 (o).port)]), .bool iso, v] w (Ret w (.bool true)) := by
  have hsm : ∀ W, Below w.heap.size w W → Calls Tryd.prog 30 #[v] W (Ret W (.bool (smallS S))) := fun W hW => (law4_small v S W _ (hv.keep hW)).mono (fun _ _ h => h.ret)
  have haw := fun W (hW : Below w.heap.size w W) => awake17 W (hE.below hW)
  have hsmo := @small_out S
  have hvc := hv
  obtain ⟨vA, vc, hve, hv1, hv2, _⟩ := hv
  unfold maxLen at hv2
  replace haw := Lib.hid haw
  cases hss : smallS S with
  | false =>
    rw [hss] at hsm
    clear hsmo hvc
    subst hve
    replace hsm := Lib.hid hsm
    go_enter Tryd.func17, Tryd.ntmps17
    go_wp2_with (first | (go_at_call 40; refine ( haw.out _ (by (repeat' first | (with_reducible exact Below.refl _ _) | (with_reducible refine Below.setCell ?_ (by first | omega | (simp; done) | (simp; omega)) _) | (with_reducible refine Below.alloc ?_ (by first | omega | (simp; done) | (simp; omega)) _) | refine below_drewN ?_ _ | refine Below.drew ?_ | (refine below_thru (by assumption) ?_ (by first | omega | (simp; done) | (simp; omega))) | exact Below.refl _ _))).mono ?_; rintro e w1 ⟨rfl, hb⟩; obtain ⟨hc, hfz⟩ := bcell hb; have hz := hb.size; (try simp at hz); (try have hz0 : w.heap.size < w1.heap.size := by omega); (try have hz1 : w.heap.size + 1 < w1.heap.size := by omega); (try have hz2 : w.heap.size + 2 < w1.heap.size := by omega); (try have hz3 : w.heap.size + 3 < w1.heap.size := by omega); (try have hcA := fun o => hc w.heap.size o (by first | omega | (simp; omega))); (try have hcB := fun o => hc (w.heap.size + 1) o (by first | omega | (simp; omega))); (try have hcGg := fun o => hc g o (by first | omega | (simp; omega))); (try have hfGg := fun o => hfz g o (by first | omega | (simp; omega))); (try have hzGg : g < w1.heap.size := by omega); (try have hcGgA := fun o => hc gA o (by first | omega | (simp; omega))); (try have hfGgA := fun o => hfz gA o (by first | omega | (simp; omega))); (try have hzGgA : gA < w1.heap.size := by omega); (try have hcGgB := fun o => hc gB o (by first | omega | (simp; omega))); (try have hfGgB := fun o => hfz gB o (by first | omega | (simp; omega))); (try have hzGgB : gB < w1.heap.size := by omega); (try have hcGgV := fun o => hc gV o (by first | omega | (simp; omega))); (try have hfGgV := fun o => hfz gV o (by first | omega | (simp; omega))); (try have hzGgV : gV < w1.heap.size := by omega)) | (go_at_call 30; refine ( hsm.out _ (by (repeat' first | (with_reducible exact Below.refl _ _) | (with_reducible refine Below.setCell ?_ (by first | omega | (simp; done) | (simp; omega)) _) | (with_reducible refine Below.alloc ?_ (by first | omega | (simp; done) | (simp; omega)) _) | refine below_drewN ?_ _ | refine Below.drew ?_ | (refine below_thru (by assumption) ?_ (by first | omega | (simp; done) | (simp; omega))) | exact Below.refl _ _))).mono ?_; rintro e w1 ⟨rfl, hb⟩; obtain ⟨hc, hfz⟩ := bcell hb; have hz := hb.size; (try simp at hz); (try have hz0 : w.heap.size < w1.heap.size := by omega); (try have hz1 : w.heap.size + 1 < w1.heap.size := by omega); (try have hz2 : w.heap.size + 2 < w1.heap.size := by omega); (try have hz3 : w.heap.size + 3 < w1.heap.size := by omega); (try have hcA := fun o => hc w.heap.size o (by first | omega | (simp; omega))); (try have hcB := fun o => hc (w.heap.size + 1) o (by first | omega | (simp; omega))); (try have hcGg := fun o => hc g o (by first | omega | (simp; omega))); (try have hfGg := fun o => hfz g o (by first | omega | (simp; omega))); (try have hzGg : g < w1.heap.size := by omega); (try have hcGgA := fun o => hc gA o (by first | omega | (simp; omega))); (try have hfGgA := fun o => hfz gA o (by first | omega | (simp; omega))); (try have hzGgA : gA < w1.heap.size := by omega); (try have hcGgB := fun o => hc gB o (by first | omega | (simp; omega))); (try have hfGgB := fun o => hfz gB o (by first | omega | (simp; omega))); (try have hzGgB : gB < w1.heap.size := by omega); (try have hcGgV := fun o => hc gV o (by first | omega | (simp; omega))); (try have hfGgV := fun o => hfz gV o (by first | omega | (simp; omega))); (try have hzGgV : gV < w1.heap.size := by omega)))
    go_ret
    exact ⟨rfl, by (repeat' first | (with_reducible exact Below.refl _ _) | (with_reducible refine Below.setCell ?_ (by first | omega | (simp; done) | (simp; omega)) _) | (with_reducible refine Below.alloc ?_ (by first | omega | (simp; done) | (simp; omega)) _) | refine below_drewN ?_ _ | refine Below.drew ?_ | (refine below_thru (by assumption) ?_ (by first | omega | (simp; done) | (simp; omega))) | exact Below.refl _ _)⟩
  | true =>
    rw [hss] at hsm
    obtain ⟨hs1, hs2⟩ := hsmo hss
    clear hsmo hss
    have hSu : Sufs w v S := ⟨hvc, by omega, fun s hs => by have := hs2 s hs; omega⟩
    clear hs2
    replace hsm := Lib.hid hsm
    by_cases hl : 1000 < o.host.name.length
    · subst hve
      clear hSu hvc
      go_enter Tryd.func17, Tryd.ntmps17
      go_wp2_with fail
      generalize hW0 : (w.alloc (Obj.cells #[(Value.bool (o).opaq), (Value.int .i64 (o).id), (Value.string ⟨((o).scheme).toArray⟩), (Value.string ⟨(((o).host).name).toArray⟩), (Value.bool ((o).host).v4), (Value.int .u32 (((o).host).addr : Int)), (Value.int .i64 (o).port)] 40)) = W0
      have hw : Below w.heap.size w W0 := by rw [← hW0]; (repeat' first | (with_reducible exact Below.refl _ _) | (with_reducible refine Below.setCell ?_ (by first | omega | (simp; done) | (simp; omega)) _) | (with_reducible refine Below.alloc ?_ (by first | omega | (simp; done) | (simp; omega)) _) | refine below_drewN ?_ _ | refine Below.drew ?_ | (refine below_thru (by assumption) ?_ (by first | omega | (simp; done) | (simp; omega))) | exact Below.refl _ _)
      have hB : Blk W0 w.heap.size 40 #[(Value.bool (o).opaq), (Value.int .i64 (o).id), (Value.string ⟨((o).scheme).toArray⟩), (Value.string ⟨(((o).host).name).toArray⟩), (Value.bool ((o).host).v4), (Value.int .u32 (((o).host).addr : Int)), (Value.int .i64 (o).port)] := by rw [← hW0]; exact Blk.new _ _ _
      have hBl := hB.lt
      have hBc := hB.cell
      have hBf := hB.frozen
      clear hW0
      go_wp2_with (first | (go_at_call 40; refine ( haw.out _ (by (repeat' first | (with_reducible exact Below.refl _ _) | (with_reducible refine Below.setCell ?_ (by first | omega | (simp; done) | (simp; omega)) _) | (with_reducible refine Below.alloc ?_ (by first | omega | (simp; done) | (simp; omega)) _) | refine below_drewN ?_ _ | refine Below.drew ?_ | (refine below_thru (by assumption) ?_ (by first | omega | (simp; done) | (simp; omega))) | exact Below.refl _ _))).mono ?_; rintro e w1 ⟨rfl, hb⟩; obtain ⟨hc, hfz⟩ := bcell hb; have hz := hb.size; (try simp at hz); (try have hz0 : w.heap.size < w1.heap.size := by omega); (try have hz1 : w.heap.size + 1 < w1.heap.size := by omega); (try have hz2 : w.heap.size + 2 < w1.heap.size := by omega); (try have hz3 : w.heap.size + 3 < w1.heap.size := by omega); (try have hcA := fun o => hc w.heap.size o (by first | omega | (simp; omega))); (try have hcB := fun o => hc (w.heap.size + 1) o (by first | omega | (simp; omega))); (try have hcGg := fun o => hc g o (by first | omega | (simp; omega))); (try have hfGg := fun o => hfz g o (by first | omega | (simp; omega))); (try have hzGg : g < w1.heap.size := by omega); (try have hcGgA := fun o => hc gA o (by first | omega | (simp; omega))); (try have hfGgA := fun o => hfz gA o (by first | omega | (simp; omega))); (try have hzGgA : gA < w1.heap.size := by omega); (try have hcGgB := fun o => hc gB o (by first | omega | (simp; omega))); (try have hfGgB := fun o => hfz gB o (by first | omega | (simp; omega))); (try have hzGgB : gB < w1.heap.size := by omega); (try have hcGgV := fun o => hc gV o (by first | omega | (simp; omega))); (try have hfGgV := fun o => hfz gV o (by first | omega | (simp; omega))); (try have hzGgV : gV < w1.heap.size := by omega)) | (go_at_call 30; refine ( hsm.out _ (by (repeat' first | (with_reducible exact Below.refl _ _) | (with_reducible refine Below.setCell ?_ (by first | omega | (simp; done) | (simp; omega)) _) | (with_reducible refine Below.alloc ?_ (by first | omega | (simp; done) | (simp; omega)) _) | refine below_drewN ?_ _ | refine Below.drew ?_ | (refine below_thru (by assumption) ?_ (by first | omega | (simp; done) | (simp; omega))) | exact Below.refl _ _))).mono ?_; rintro e w1 ⟨rfl, hb⟩; obtain ⟨hc, hfz⟩ := bcell hb; have hz := hb.size; (try simp at hz); (try have hz0 : w.heap.size < w1.heap.size := by omega); (try have hz1 : w.heap.size + 1 < w1.heap.size := by omega); (try have hz2 : w.heap.size + 2 < w1.heap.size := by omega); (try have hz3 : w.heap.size + 3 < w1.heap.size := by omega); (try have hcA := fun o => hc w.heap.size o (by first | omega | (simp; omega))); (try have hcB := fun o => hc (w.heap.size + 1) o (by first | omega | (simp; omega))); (try have hcGg := fun o => hc g o (by first | omega | (simp; omega))); (try have hfGg := fun o => hfz g o (by first | omega | (simp; omega))); (try have hzGg : g < w1.heap.size := by omega); (try have hcGgA := fun o => hc gA o (by first | omega | (simp; omega))); (try have hfGgA := fun o => hfz gA o (by first | omega | (simp; omega))); (try have hzGgA : gA < w1.heap.size := by omega); (try have hcGgB := fun o => hc gB o (by first | omega | (simp; omega))); (try have hfGgB := fun o => hfz gB o (by first | omega | (simp; omega))); (try have hzGgB : gB < w1.heap.size := by omega); (try have hcGgV := fun o => hc gV o (by first | omega | (simp; omega))); (try have hfGgV := fun o => hfz gV o (by first | omega | (simp; omega))); (try have hzGgV : gV < w1.heap.size := by omega)))
      go_ret
      exact ⟨rfl, by (repeat' first | (with_reducible exact Below.refl _ _) | (with_reducible refine Below.setCell ?_ (by first | omega | (simp; done) | (simp; omega)) _) | (with_reducible refine Below.alloc ?_ (by first | omega | (simp; done) | (simp; omega)) _) | refine below_drewN ?_ _ | refine Below.drew ?_ | (refine below_thru (by assumption) ?_ (by first | omega | (simp; done) | (simp; omega))) | exact Below.refl _ _)⟩
    · have ho : OWide o := ⟨⟨by omega, by omega⟩, has, hop⟩
      have hk := fun W (hW : Below w.heap.size w W) => groups_key o iso v S W (hE.below hW) ho hid (hSu.below hW)
      have hr := fun W (hW : Below w.heap.size w W) => ref17_key o iso v S W (hE.below hW) ho hid (hSu.below hW)
      generalize Gl.keyOf o iso S = key at *
      replace hk := Lib.hid hk
      replace hr := Lib.hid hr
      subst hve
      clear hSu hvc ho
      go_enter Tryd.func17, Tryd.ntmps17
      go_wp2_with fail
      generalize hW0 : (w.alloc (Obj.cells #[(Value.bool (o).opaq), (Value.int .i64 (o).id), (Value.string ⟨((o).scheme).toArray⟩), (Value.string ⟨(((o).host).name).toArray⟩), (Value.bool ((o).host).v4), (Value.int .u32 (((o).host).addr : Int)), (Value.int .i64 (o).port)] 40)) = W0
      have hw : Below w.heap.size w W0 := by rw [← hW0]; (repeat' first | (with_reducible exact Below.refl _ _) | (with_reducible refine Below.setCell ?_ (by first | omega | (simp; done) | (simp; omega)) _) | (with_reducible refine Below.alloc ?_ (by first | omega | (simp; done) | (simp; omega)) _) | refine below_drewN ?_ _ | refine Below.drew ?_ | (refine below_thru (by assumption) ?_ (by first | omega | (simp; done) | (simp; omega))) | exact Below.refl _ _)
      have hB : Blk W0 w.heap.size 40 #[(Value.bool (o).opaq), (Value.int .i64 (o).id), (Value.string ⟨((o).scheme).toArray⟩), (Value.string ⟨(((o).host).name).toArray⟩), (Value.bool ((o).host).v4), (Value.int .u32 (((o).host).addr : Int)), (Value.int .i64 (o).port)] := by rw [← hW0]; exact Blk.new _ _ _
      have hBl := hB.lt
      have hBc := hB.cell
      have hBf := hB.frozen
      clear hW0
      go_wp2_with (first | (go_at_call 40; refine ( haw.out _ (by (repeat' first | (with_reducible exact Below.refl _ _) | (with_reducible refine Below.setCell ?_ (by first | omega | (simp; done) | (simp; omega)) _) | (with_reducible refine Below.alloc ?_ (by first | omega | (simp; done) | (simp; omega)) _) | refine below_drewN ?_ _ | refine Below.drew ?_ | (refine below_thru (by assumption) ?_ (by first | omega | (simp; done) | (simp; omega))) | exact Below.refl _ _))).mono ?_; rintro e w1 ⟨rfl, hb⟩; obtain ⟨hc, hfz⟩ := bcell hb; have hz := hb.size; (try simp at hz); (try have hz0 : w.heap.size < w1.heap.size := by omega); (try have hz1 : w.heap.size + 1 < w1.heap.size := by omega); (try have hz2 : w.heap.size + 2 < w1.heap.size := by omega); (try have hz3 : w.heap.size + 3 < w1.heap.size := by omega); (try have hcA := fun o => hc w.heap.size o (by first | omega | (simp; omega))); (try have hcB := fun o => hc (w.heap.size + 1) o (by first | omega | (simp; omega))); (try have hcGg := fun o => hc g o (by first | omega | (simp; omega))); (try have hfGg := fun o => hfz g o (by first | omega | (simp; omega))); (try have hzGg : g < w1.heap.size := by omega); (try have hcGgA := fun o => hc gA o (by first | omega | (simp; omega))); (try have hfGgA := fun o => hfz gA o (by first | omega | (simp; omega))); (try have hzGgA : gA < w1.heap.size := by omega); (try have hcGgB := fun o => hc gB o (by first | omega | (simp; omega))); (try have hfGgB := fun o => hfz gB o (by first | omega | (simp; omega))); (try have hzGgB : gB < w1.heap.size := by omega); (try have hcGgV := fun o => hc gV o (by first | omega | (simp; omega))); (try have hfGgV := fun o => hfz gV o (by first | omega | (simp; omega))); (try have hzGgV : gV < w1.heap.size := by omega)) | (go_at_call 30; refine ( hsm.out _ (by (repeat' first | (with_reducible exact Below.refl _ _) | (with_reducible refine Below.setCell ?_ (by first | omega | (simp; done) | (simp; omega)) _) | (with_reducible refine Below.alloc ?_ (by first | omega | (simp; done) | (simp; omega)) _) | refine below_drewN ?_ _ | refine Below.drew ?_ | (refine below_thru (by assumption) ?_ (by first | omega | (simp; done) | (simp; omega))) | exact Below.refl _ _))).mono ?_; rintro e w1 ⟨rfl, hb⟩; obtain ⟨hc, hfz⟩ := bcell hb; have hz := hb.size; (try simp at hz); (try have hz0 : w.heap.size < w1.heap.size := by omega); (try have hz1 : w.heap.size + 1 < w1.heap.size := by omega); (try have hz2 : w.heap.size + 2 < w1.heap.size := by omega); (try have hz3 : w.heap.size + 3 < w1.heap.size := by omega); (try have hcA := fun o => hc w.heap.size o (by first | omega | (simp; omega))); (try have hcB := fun o => hc (w.heap.size + 1) o (by first | omega | (simp; omega))); (try have hcGg := fun o => hc g o (by first | omega | (simp; omega))); (try have hfGg := fun o => hfz g o (by first | omega | (simp; omega))); (try have hzGg : g < w1.heap.size := by omega); (try have hcGgA := fun o => hc gA o (by first | omega | (simp; omega))); (try have hfGgA := fun o => hfz gA o (by first | omega | (simp; omega))); (try have hzGgA : gA < w1.heap.size := by omega); (try have hcGgB := fun o => hc gB o (by first | omega | (simp; omega))); (try have hfGgB := fun o => hfz gB o (by first | omega | (simp; omega))); (try have hzGgB : gB < w1.heap.size := by omega); (try have hcGgV := fun o => hc gV o (by first | omega | (simp; omega))); (try have hfGgV := fun o => hfz gV o (by first | omega | (simp; omega))); (try have hzGgV : gV < w1.heap.size := by omega)))
      go_region_held3 (fun W => Below w.heap.size w W ∧ w.heap.size < W.heap.size ∧ (∀ n0, W.cell? ⟨w.heap.size, n0, none⟩ = (#[(Value.bool (o).opaq), (Value.int .i64 (o).id), (Value.string ⟨((o).scheme).toArray⟩), (Value.string ⟨(((o).host).name).toArray⟩), (Value.bool ((o).host).v4), (Value.int .u32 (((o).host).addr : Int)), (Value.int .i64 (o).port)] : Array Value)[n0]?)) ((refine ⟨by (repeat' first | (with_reducible exact Below.refl _ _) | (with_reducible refine Below.setCell ?_ (by first | omega | (simp; done) | (simp; omega)) _) | (with_reducible refine Below.alloc ?_ (by first | omega | (simp; done) | (simp; omega)) _) | refine below_drewN ?_ _ | refine Below.drew ?_ | (refine below_thru (by assumption) ?_ (by first | omega | (simp; done) | (simp; omega))) | exact Below.refl _ _), ?_⟩; simp [*]))
        (first | (go_at_call 41; refine ( hk.out _ (by (repeat' first | (with_reducible exact Below.refl _ _) | (with_reducible refine Below.setCell ?_ (by first | omega | (simp; done) | (simp; omega)) _) | (with_reducible refine Below.alloc ?_ (by first | omega | (simp; done) | (simp; omega)) _) | refine below_drewN ?_ _ | refine Below.drew ?_ | (refine below_thru (by assumption) ?_ (by first | omega | (simp; done) | (simp; omega))) | exact Below.refl _ _))).mono ?_; rintro e w1 ⟨rfl, hb⟩; obtain ⟨hc, hfz⟩ := bcell hb; have hz := hb.size; (try simp at hz); (try have hz0 : w.heap.size < w1.heap.size := by omega); (try have hz1 : w.heap.size + 1 < w1.heap.size := by omega); (try have hz2 : w.heap.size + 2 < w1.heap.size := by omega); (try have hz3 : w.heap.size + 3 < w1.heap.size := by omega); (try have hcA := fun o => hc w.heap.size o (by first | omega | (simp; omega))); (try have hcB := fun o => hc (w.heap.size + 1) o (by first | omega | (simp; omega))); (try have hcGg := fun o => hc g o (by first | omega | (simp; omega))); (try have hfGg := fun o => hfz g o (by first | omega | (simp; omega))); (try have hzGg : g < w1.heap.size := by omega); (try have hcGgA := fun o => hc gA o (by first | omega | (simp; omega))); (try have hfGgA := fun o => hfz gA o (by first | omega | (simp; omega))); (try have hzGgA : gA < w1.heap.size := by omega); (try have hcGgB := fun o => hc gB o (by first | omega | (simp; omega))); (try have hfGgB := fun o => hfz gB o (by first | omega | (simp; omega))); (try have hzGgB : gB < w1.heap.size := by omega); (try have hcGgC := fun o => hc gC o (by first | omega | (simp; omega))); (try have hfGgC := fun o => hfz gC o (by first | omega | (simp; omega))); (try have hzGgC : gC < w1.heap.size := by omega); (try have hcGgD := fun o => hc gD o (by first | omega | (simp; omega))); (try have hfGgD := fun o => hfz gD o (by first | omega | (simp; omega))); (try have hzGgD : gD < w1.heap.size := by omega); (try have hcGgE := fun o => hc gE o (by first | omega | (simp; omega))); (try have hfGgE := fun o => hfz gE o (by first | omega | (simp; omega))); (try have hzGgE : gE < w1.heap.size := by omega); (try have hcGgF := fun o => hc gF o (by first | omega | (simp; omega))); (try have hfGgF := fun o => hfz gF o (by first | omega | (simp; omega))); (try have hzGgF : gF < w1.heap.size := by omega); (try have hcGgV := fun o => hc gV o (by first | omega | (simp; omega))); (try have hfGgV := fun o => hfz gV o (by first | omega | (simp; omega))); (try have hzGgV : gV < w1.heap.size := by omega)) | (go_at_call 42; refine ( hr.out _ (by (repeat' first | (with_reducible exact Below.refl _ _) | (with_reducible refine Below.setCell ?_ (by first | omega | (simp; done) | (simp; omega)) _) | (with_reducible refine Below.alloc ?_ (by first | omega | (simp; done) | (simp; omega)) _) | refine below_drewN ?_ _ | refine Below.drew ?_ | (refine below_thru (by assumption) ?_ (by first | omega | (simp; done) | (simp; omega))) | exact Below.refl _ _))).mono ?_; rintro e w1 ⟨rfl, hb⟩; obtain ⟨hc, hfz⟩ := bcell hb; have hz := hb.size; (try simp at hz); (try have hz0 : w.heap.size < w1.heap.size := by omega); (try have hz1 : w.heap.size + 1 < w1.heap.size := by omega); (try have hz2 : w.heap.size + 2 < w1.heap.size := by omega); (try have hz3 : w.heap.size + 3 < w1.heap.size := by omega); (try have hcA := fun o => hc w.heap.size o (by first | omega | (simp; omega))); (try have hcB := fun o => hc (w.heap.size + 1) o (by first | omega | (simp; omega))); (try have hcGg := fun o => hc g o (by first | omega | (simp; omega))); (try have hfGg := fun o => hfz g o (by first | omega | (simp; omega))); (try have hzGg : g < w1.heap.size := by omega); (try have hcGgA := fun o => hc gA o (by first | omega | (simp; omega))); (try have hfGgA := fun o => hfz gA o (by first | omega | (simp; omega))); (try have hzGgA : gA < w1.heap.size := by omega); (try have hcGgB := fun o => hc gB o (by first | omega | (simp; omega))); (try have hfGgB := fun o => hfz gB o (by first | omega | (simp; omega))); (try have hzGgB : gB < w1.heap.size := by omega); (try have hcGgC := fun o => hc gC o (by first | omega | (simp; omega))); (try have hfGgC := fun o => hfz gC o (by first | omega | (simp; omega))); (try have hzGgC : gC < w1.heap.size := by omega); (try have hcGgD := fun o => hc gD o (by first | omega | (simp; omega))); (try have hfGgD := fun o => hfz gD o (by first | omega | (simp; omega))); (try have hzGgD : gD < w1.heap.size := by omega); (try have hcGgE := fun o => hc gE o (by first | omega | (simp; omega))); (try have hfGgE := fun o => hfz gE o (by first | omega | (simp; omega))); (try have hzGgE : gE < w1.heap.size := by omega); (try have hcGgF := fun o => hc gF o (by first | omega | (simp; omega))); (try have hfGgF := fun o => hfz gF o (by first | omega | (simp; omega))); (try have hzGgF : gF < w1.heap.size := by omega); (try have hcGgV := fun o => hc gV o (by first | omega | (simp; omega))); (try have hfGgV := fun o => hfz gV o (by first | omega | (simp; omega))); (try have hzGgV : gV < w1.heap.size := by omega)))
      all_goals (go_wp2_with fail)
      all_goals go_ret
      all_goals exact ⟨rfl, by (repeat' first | (with_reducible exact Below.refl _ _) | (with_reducible refine Below.setCell ?_ (by first | omega | (simp; done) | (simp; omega)) _) | (with_reducible refine Below.alloc ?_ (by first | omega | (simp; done) | (simp; omega)) _) | refine below_drewN ?_ _ | refine Below.drew ?_ | (refine below_thru (by assumption) ?_ (by first | omega | (simp; done) | (simp; omega))) | exact Below.refl _ _)⟩
end Go.Proofs.YthmgcnaoionmoaaDoor

namespace Go.Proofs.YthmgcnaoionmoaaDoor
open Go.ChangeShapes Go.WideShapes Go.ChangeAt Go.RowKit
section
variable {H : Type} {enc : TypeId × Value → H} {w : World} {base : Nat} {spare : Nat → Bool} {held : Bool}
structure OriginFits (o : Gl.Origin) : Prop where
  scheme : o.scheme.length ≤ maxLen
  name : o.host.name.length ≤ maxLen
  addr : o.host.addr < 4294967296
  id : -9223372036854775808 ≤ o.id ∧ o.id ≤ 9223372036854775807
  port : -9223372036854775808 ≤ o.port ∧ o.port ≤ 9223372036854775807
set_option maxRecDepth 100000 in
theorem open_origin {v : Value} {d : DataW H} {p : List MemPlace} {r : Reach} {b0 : Nat} (hval : Value.okWide Tryd.prog w r b0 40 v) (hd : DataW.Trod enc Tryd.prog w base spare held 40 v d p) :
    ∃ o : Gl.Origin, v = (Value.agg #[(Value.bool (o).opaq), (Value.int .i64 (o).id), (Value.string ⟨((o).scheme).toArray⟩), (Value.string ⟨(((o).host).name).toArray⟩), (Value.bool ((o).host).v4), (Value.int .u32 (((o).host).addr : Int)), (Value.int .i64 (o).port)]) ∧ OriginFits o := by
  unfold Value.okWide at hval
  rw [Tryd.underlying40] at hval
  obtain ⟨cs, rfl, hsz, _⟩ := hval
  obtain ⟨fuel, h⟩ := hd
  obtain ⟨xs, n, _, _, hl, hlen, hf⟩ := DataW.trod_struct Tryd.underlying40 h
  simp only [Value.cells] at hl hf
  obtain ⟨cs⟩ := cs
  simp only at hl hf
  rw [show (Tryd.prog).cellsOf 40 = 7 by kernel_rfl] at hl
  match cs, hl with
  | [c0, c1, c2, c3, c4, c5, c6], _ =>
    have f0 := hf 0 _ rfl
    have f1 := hf 1 _ rfl
    have f2 := hf 2 _ rfl
    have f3 := hf 3 _ rfl
    have f4 := hf 4 _ rfl
    simp only [show (Tryd.prog).cellsOf 9 = 1 by kernel_rfl, show (Tryd.prog).cellsOf 4 = 1 by kernel_rfl, show (Tryd.prog).cellsOf 3 = 1 by kernel_rfl, show (Tryd.prog).cellsOf 25 = 3 by kernel_rfl, List.getElem_toArray, List.getElem_cons_zero, List.getElem_cons_succ, List.drop_zero, List.drop_succ_cons, List.take_succ_cons, List.take_zero] at f0 f1 f2 f3 f4
    have g : ∀ i : Nat, i < 5 → ∃ y, xs[i]? = some y := fun i hi => ⟨xs[i]'(by rw [hlen]; exact hi), List.getElem?_eq_getElem _⟩
    obtain ⟨y0, e0⟩ := g 0 (by decide)
    obtain ⟨y1, e1⟩ := g 1 (by decide)
    obtain ⟨y2, e2⟩ := g 2 (by decide)
    obtain ⟨y3, e3⟩ := g 3 (by decide)
    obtain ⟨y4, e4⟩ := g 4 (by decide)
    obtain ⟨b, h0⟩ := trod_boo Tryd.underlying4 (f0.trans e0)
    obtain ⟨k1, h1, hk1⟩ := trod_i64 Tryd.underlying3 (f1.trans e1)
    obtain ⟨l2, h2, hs2⟩ := trod_str Tryd.underlying9 (f2.trans e2)
    obtain ⟨hst, h3, hs3, ha⟩ := open_host_cells (f3.trans e3)
    obtain ⟨k4, h4, hk4⟩ := trod_i64 Tryd.underlying3 (f4.trans e4)
    simp only [List.cons.injEq, and_true] at h0 h1 h2 h3 h4
    obtain ⟨h3a, h3b, h3c⟩ := h3
    subst h0 h1 h2 h3a h3b h3c h4
    exact ⟨{ opaq := b, id := k1, scheme := l2, host := hst, port := k4 }, rfl, hs2, hs3, ha, bounds_i64 hk1, bounds_i64 hk4⟩

set_option maxRecDepth 100000 in
theorem open_texts {v : Value} {d : DataW H} {p : List MemPlace} {r : Reach} {b0 : Nat} (hval : Value.okWide Tryd.prog w r b0 36 v) (hd : DataW.Trod enc Tryd.prog w 0 (fun _ => true) held 36 v d p) :
    ∃ S : List (List UInt8), Strs w w.heap.size v S := by
  obtain ⟨fuel, h⟩ := hd
  have hsl : ∃ A n c, v = .slice A n c := okWide_slice Tryd.underlying36 hval
  obtain ⟨A, n, c, rfl⟩ := hsl
  rcases open_strings Tryd.underlying36 Tryd.underlying9 (by kernel_rfl) h with ⟨hc, _⟩ | ⟨a, len, cap, ss, hc, _, hl, hm, hss, _, hcell, _⟩
  · simp [Value.cells] at hc
    obtain ⟨rfl, rfl, rfl⟩ := hc
    exact ⟨[], none, 0, rfl, Nat.le_refl _, Nat.zero_le _, fun h => absurd h (Nat.lt_irrefl _)⟩
  · simp [Value.cells] at hc
    obtain ⟨rfl, rfl, rfl⟩ := hc
    simp only [if_true] at hss
    have hlen : ((ss.take n).map (fun s => s.data.toList)).length = n := by simp; omega
    refine ⟨(ss.take n).map (fun s => s.data.toList), some a, c, by rw [hlen], by rw [hlen]; exact hl, hm, fun h0 => ?_⟩
    rw [hlen] at h0
    have hc0 := hcell 0 (by omega)
    obtain ⟨b, off, spot⟩ := a
    have hspot : spot = none := by simpa [Addr.add] using World.cell?_spot hc0
    subst hspot
    refine ⟨b, off, rfl, ?_, fun j hj => ?_⟩
    · have := World.block_lt_of_cell? w _ hc0
      simpa [Addr.add] using this
    · rw [hlen] at hj
      have := hcell j (by omega)
      rw [Go.WideShapes.add_plain] at this
      rw [this]
      rw [List.getD_eq_getElem?_getD, List.getElem?_eq_getElem (show j < ss.length by omega)]
      simp
end
set_option maxRecDepth 100000 in
theorem returns_of2 {H : Type} {enc : TypeId × Value → H} {os : Os} {f : FuncId} {fn : Func} {s : ChangeSpec} {conds : List PathCond} {apart fresh handsOn again : Bool} {L : List (String × DataW Unit)}
    (started : os.Started) (noInit : Tryd.checked.prog.inits.idxOf? f = none) (hfn : Tryd.checked.prog.funcs[f]? = some fn)
    (witness : ∃ (w : World) (tape : Tape) (i : Input), w.os = os ∧ (w.forCall tape i).Shaped Tryd.checked.prog ∧ i.vars = [] ∧ Input.okWide Tryd.checked.prog (w.forCall tape i) .any w.heap.size f i ∧
      ((s.pre enc Tryd.checked.prog fn conds apart (w.forCall tape i).memory i.args ∧ laidMetH Tryd.checked.prog L (w.forCall tape i).memory) ∧ sizedMet enc Tryd.checked.prog fn (OpenSpec.ofChange s) apart (w.forCall tape i).memory i.args) ∧ ({} : Assume).holds Tryd.checked.prog (lone (Frame.enter Tryd.checked.prog f i.args .normal) [] (w.forCall tape i)))
    (contract : ∀ (W : World) (base : Nat) (args : Array Value) (ds gs : List (DataW H)) (before : List MemPlace),
      (∀ (j : Nat) t v, fn.params[j]? = some t → args[j]? = some v → Value.okWide Tryd.checked.prog W .any base t v) →
      DataW.Whole enc Tryd.checked.prog fn.params.toList s.vars apart W args.toList ds gs before →
      (DataW.weightsEach Tryd.checked.prog (fn.params.toList ++ (OpenSpec.ofChange s).bare.plain.varTypes Tryd.checked.prog) (ds ++ gs)).all (· ≤ reachBytes) = true →
      laidMetH Tryd.checked.prog L W → W.ShapedOpen Tryd.checked.prog →
      Calls Tryd.checked.prog f args W fun e W' => ∃ v, e = .returned v ∧ s.post enc Tryd.checked.prog fn apart fresh handsOn again W args v W') :
    ReturnsInHanded {} Tryd.checked os f .any (fun w args => (s.pre enc Tryd.checked.prog fn conds apart w args ∧ laidMetH Tryd.checked.prog L w) ∧ sizedMet enc Tryd.checked.prog fn (OpenSpec.ofChange s) apart w args) (s.post enc Tryd.checked.prog fn apart fresh handsOn again) := by
  refine returnsInHanded_of_calls ownK started noInit witness ?_
  intro w tape i _ hsh _ hok hpre _
  obtain ⟨_, _, _, fn', hfn', _, _, _, _, hval⟩ := hok
  have e : fn' = fn := Option.some.inj (hfn'.symm.trans hfn)
  subst e
  obtain ⟨⟨_, hl⟩, _, ds, gs, before, hw, hwt⟩ := hpre
  have hw' := DataW.Whole.of_heap (w' := w.forCall tape i) (by rfl) hw
  refine (contract (w.forCall tape i) w.heap.size i.args ds gs before hval hw' hwt (hl.of_heap (by rfl)) hsh).mono fun e W' ⟨v, he, hp⟩ => ?_
  subst he
  exact ChangeSpec.post_blind hp

section
variable {H : Type} {enc : TypeId × Value → H} {w : World} {base : Nat} {spare : Nat → Bool} {held : Bool}
set_option maxRecDepth 100000 in
theorem origin_weight {o : Gl.Origin} {d : DataW H} {p : List MemPlace} (hd : DataW.Trod enc Tryd.prog w base spare held 40 ((Value.agg #[(Value.bool (o).opaq), (Value.int .i64 (o).id), (Value.string ⟨((o).scheme).toArray⟩), (Value.string ⟨(((o).host).name).toArray⟩), (Value.bool ((o).host).v4), (Value.int .u32 (((o).host).addr : Int)), (Value.int .i64 (o).port)])) d p) (hw : (DataW.weights Tryd.prog 40 d).all (· ≤ reachBytes) = true) : o.scheme.length ≤ reachBytes := by
  obtain ⟨fuel, h⟩ := hd
  obtain ⟨xs, n, _, hx, hl, hlen, hf⟩ := DataW.trod_struct Tryd.underlying40 h
  simp only [Value.cells] at hf
  have f2 := hf 2 _ rfl
  simp only [show (Tryd.prog).cellsOf 9 = 1 by kernel_rfl, List.getElem_toArray, List.getElem_cons_zero, List.getElem_cons_succ, List.drop_zero, List.drop_succ_cons, List.take_succ_cons, List.take_zero] at f2
  have hlen5 : xs.length = 5 := hlen
  match xs, hlen5 with
  | [y0, y1, y2, y3, y4], _ =>
    obtain ⟨s, hs, hy, _⟩ := DataW.trod_string Tryd.underlying9 f2
    simp only [List.cons.injEq, and_true, Value.string.injEq] at hs
    have hd2 : d = .agg [y0.1, y1.1, y2.1, y3.1, y4.1] := congrArg Prod.fst hx
    rw [hd2, hy, ← hs] at hw
    unfold DataW.weights at hw
    rw [Tryd.underlying40] at hw
    simp [DataW.weightsEach, DataW.weights] at hw
    exact hw.2.2.1
end
end Go.Proofs.YthmgcnaoionmoaaDoor

namespace Go.Proofs.YthmgcnaoionmoaaDoor
open Go.ChangeShapes Go.WideShapes Go.ChangeAt Go.RowKit
open Go.ChangeMaps (open_string shut_string)

set_option maxRecDepth 100000 in
theorem groupsKeys_lifted (os : Os) (started : os.Started) (H : Type) (enc : TypeId × Value → H) :
    ReturnsInHanded {} Tryd.checked os 17 .any (fun w args => (Rows.groupsKeysSpec.pre enc Tryd.prog Tryd.f17 Rows.groupsKeysRow.domain false w args ∧ laidMetH Tryd.prog Rows.groupsKeysRow.laid w) ∧ sizedMet enc Tryd.prog Tryd.f17 (OpenSpec.ofChange Rows.groupsKeysSpec) false w args)
      (Rows.groupsKeysSpec.post enc Tryd.prog Tryd.f17 false true false false) := by
  refine returns_of2 started (by kernel_rfl) Tryd.func17
    (ChangeSpec.witness_shaped (enc := enc) (C := Tryd.checked) (os := os) (X := fun w _ => laidMetH Tryd.prog Rows.groupsKeysRow.laid w) false (World.laidAll Tryd.prog os Rows.groupsKeysRow.laid) #[(.agg #[.bool false, .int .i64 0, .string ⟨#[]⟩, .string ⟨#[]⟩, .bool false, .int .u32 0, .int .i64 0]), (.bool false), (.slice none 0 0)] 8 (World.laidAll_os _ _ _)
      (World.shaped_of_ZipB (by kernel_rfl) (by kernel_rfl)) (by kernel_rfl) (by kernel_rfl) (by kernel_rfl)
      (by rw [MakeChecks.laidMetH_plain _ _ _ (by kernel_rfl)]; exact laidMet_laidAll _ (by kernel_rfl) (by kernel_rfl))) ?_
  intro W base args ds gs before hval0 hW hwt hL hS
  have hE : Env W := env_of hS hL
  have hval : ∀ (j : Nat) t v, Tryd.f17.params[j]? = some t → args[j]? = some v → Value.okWide Tryd.prog W .any base t v := hval0
  have hW' := hW
  obtain ⟨p, q, hA0, hV, rfl, _, _⟩ := hW
  have hA : DataW.TrodAll enc Tryd.prog W 0 (fun _ => true) true Tryd.f17.params.toList args.toList ds p := hA0
  rw [Tryd.params17] at hA hval
  have hlt := DataW.TrodAll.lt hA0
  obtain ⟨v0, v1, v2, d0, d1, d2, p0, p1, p2, rfl, rfl, rfl, h0, h1, h2⟩ := trodAll_three hA
  obtain ⟨rfl, rfl⟩ := trodVars_none hV
  simp only [List.append_nil] at hW'
  have k0 := h0
  obtain ⟨o0, rfl, ho0⟩ := open_origin (hval 0 _ _ rfl rfl) h0
  have k1 := h1
  obtain ⟨b1, rfl, _, _⟩ := open_bool Tryd.underlying4 (hval 1 _ _ rfl rfl) h1
  have k2 := h2
  obtain ⟨S2, hS2⟩ := open_texts (hval 2 _ _ rfl rfl) h2
  have hw0 : (DataW.weights Tryd.prog 40 d0).all (· ≤ reachBytes) = true := by
    have hwx := hwt
    rw [Tryd.params17] at hwx
    simp only [List.cons_append, DataW.weightsEach, List.all_append, Bool.and_eq_true] at hwx
    exact hwx.1
  refine (law17_keys o0 b1 v2 S2 W hE ho0.addr ho0.id ho0.port (Nat.le_trans (origin_weight k0 hw0) (by decide)) hS2).mono fun e W' ⟨he, hw⟩ => ?_
  subst he
  exact ⟨_, rfl, ⟨_, _, _, [], _, [], hW', trodAll_mk1 (shut_bool Tryd.underlying4 _), trodAll_mk3 (Below.trod laidOut (by kernel_rfl) (of_decide_eq_true (by kernel_rfl)) k0 hw (fun x hx => hlt x (by simp [hx]))) (Below.trod laidOut (by kernel_rfl) (of_decide_eq_true (by kernel_rfl)) k1 hw (fun x hx => hlt x (by simp [hx]))) (Below.trod laidOut (by kernel_rfl) (of_decide_eq_true (by kernel_rfl)) k2 hw (fun x hx => hlt x (by simp [hx]))), rfl, hw.frame _, fun h => by cases h⟩⟩

theorem groupsKeys_row : Rows.GroupsKeysSaid :=
  OpenClaim.holds_of_wide 17 Tryd.f17 rfl rfl rfl rfl rfl rfl rfl ⟨rfl, rfl, rfl, rfl, rfl⟩ rfl rfl rfl rfl rfl (by kernel_rfl) Tryd.func17 (by kernel_rfl)
    (of_decide_eq_true (by kernel_rfl)) (by unfold Func.isWrapper; first | (rw [if_pos (by decide +kernel)]; kernel_rfl) | (rw [if_neg (by decide +kernel)]; exact ⟨rfl, rfl⟩))
    (fun os started H enc _ => groupsKeys_lifted os started H enc)
theorem groupsKeys_holds : Rows.GroupsKeysCardSaid :=
  Claim7.holds_tied_plain_at .later [] [.data, .data, .data, .data, .pinned] true (true, "a5cdb46439b70ecb27c8f5c82aaf7c0167401f07b9e83c8579d211d837899dc7") false groupsKeys_row (fun _ h => by cases h) (by kernel_rfl) (fun _ h => by cases h) groupsKeys_row_tie rfl ⟨rfl, rfl⟩ (by kernel_rfl) rfl
    (fun f fn hf hfn => by
      obtain rfl : f = 17 := Option.some.inj ((show Tryd.prog.funcNamed "glacis/glacislaw17.GroupsKeys" = some 17 by kernel_rfl).symm.trans hf) |>.symm
      obtain rfl : fn = Tryd.f17 := (Option.some.inj (Tryd.func17.symm.trans hfn)).symm
      exact ⟨by kernel_rfl, fun j t ht => by
        rw [Tryd.params17] at ht
        have hm : t ∈ [40, 4, 36] := by simpa using Array.mem_of_getElem? ht
        have hall : ([40, 4, 36].all fun u => !Tryd.prog.wantsStandIn u) = true := by kernel_rfl
        exact (show Tryd.prog.wantsStandIn t = false by simpa using List.all_eq_true.1 hall t hm)⟩)
    (by kernel_rfl)
end Go.Proofs.YthmgcnaoionmoaaDoor
