/- glacislaw14.small. -/
import Derived.Test.YtbafofldgkigmaaGreatDoorHop
import Derived.Test.YtbafofldgkigmaaGreatDoorAwake14
namespace Go.Proofs.YtbafofldgkigmaaGreatDoor
open Go.RowKit
attribute [local irreducible] Calls
theorem Blk.slots14H {W : World} {g : Nat} {h : Gl.Hop} (hB : Blk W g 31 #[(Value.string ⟨((h.url).scheme).toArray⟩), (Value.string ⟨(((h.url).host).name).toArray⟩), (Value.bool ((h.url).host).v4), (Value.int .u32 (((h.url).host).addr : Int)), (Value.int .i64 (h.url).port), (Value.string ⟨((h.url).path).toArray⟩), (Value.bool (h.url).hasQuery), (Value.string ⟨((h.url).query).toArray⟩), (Value.string ⟨((h.url).rest).toArray⟩), h.vh]) (hH : Heads W h.vh h.head) : Hops W (.slice (some ⟨g, 0, none⟩) 1 1) [h] :=
  ⟨Blk.slots14 hB, fun x hx => by simp at hx; subst hx; exact hH⟩
set_option maxRecDepth 100000 in
set_option maxHeartbeats 4000000 in
theorem law14_small (o : Gl.Origin) (u : Gl.URL) (vh : Value) (hl : List Gl.Head) (v : Value) (S : List (List UInt8)) (w : World) (hH : Heads w vh hl) (hv : Strs w w.heap.size v S) :
    Calls Tryz.prog 16 #[(Value.agg #[(Value.bool (o).opaq), (Value.int .i64 (o).id), (Value.string ⟨((o).scheme).toArray⟩), (Value.string ⟨(((o).host).name).toArray⟩), (Value.bool ((o).host).v4), (Value.int .u32 (((o).host).addr : Int)), (Value.int .i64 (o).port)]), .agg #[(Value.string ⟨((u).scheme).toArray⟩), (Value.string ⟨(((u).host).name).toArray⟩), (Value.bool ((u).host).v4), (Value.int .u32 (((u).host).addr : Int)), (Value.int .i64 (u).port), (Value.string ⟨((u).path).toArray⟩), (Value.bool (u).hasQuery), (Value.string ⟨((u).query).toArray⟩), (Value.string ⟨((u).rest).toArray⟩), vh], v] w (Ret w (.bool (smallHops o [⟨u, vh, hl⟩] && smallS S))) := by
  have h1 := fun g W (hW : Below w.heap.size w W) (hB : Blk W g 31 #[(Value.string ⟨((u).scheme).toArray⟩), (Value.string ⟨(((u).host).name).toArray⟩), (Value.bool ((u).host).v4), (Value.int .u32 (((u).host).addr : Int)), (Value.int .i64 (u).port), (Value.string ⟨((u).path).toArray⟩), (Value.bool (u).hasQuery), (Value.string ⟨((u).query).toArray⟩), (Value.string ⟨((u).rest).toArray⟩), vh]) => law13_small 0 0 0 o (.slice (some ⟨g, 0, none⟩) 1 1) [⟨u, vh, hl⟩] W (Blk.slots14H (h := ⟨u, vh, hl⟩) hB (hH.below hW))
  have h2 := fun W (hW : Below w.heap.size w W) => (law4_small v S W w.heap.size (hv.keep hW)).mono (fun _ _ h => h.ret)
  generalize smallHops o [⟨u, vh, hl⟩] = q1 at *
  generalize smallS S = q2 at *
  obtain ⟨A3, d3, rfl⟩ := hH.form
  obtain ⟨vA, vc, rfl, _⟩ := id hv
  clear hH hv
  replace h1 := Lib.hid h1
  replace h2 := Lib.hid h2
  go_enter Tryz.func16, Tryz.ntmps16
  go_upto_region 1 with fail
  generalize hW0 : ((w.alloc (Obj.cells #[(Value.bool (o).opaq), (Value.int .i64 (o).id), (Value.string ⟨((o).scheme).toArray⟩), (Value.string ⟨(((o).host).name).toArray⟩), (Value.bool ((o).host).v4), (Value.int .u32 (((o).host).addr : Int)), (Value.int .i64 (o).port)] 35)).alloc (Obj.cells #[(Value.string ⟨((u).scheme).toArray⟩), (Value.string ⟨(((u).host).name).toArray⟩), (Value.bool ((u).host).v4), (Value.int .u32 (((u).host).addr : Int)), (Value.int .i64 (u).port), (Value.string ⟨((u).path).toArray⟩), (Value.bool (u).hasQuery), (Value.string ⟨((u).query).toArray⟩), (Value.string ⟨((u).rest).toArray⟩), .slice A3 hl.length d3] 31)) = W0
  have hw0 : Below w.heap.size w W0 := by rw [← hW0]; (exact bw_)
  have hBO : Blk W0 (w.heap.size) 35 #[(Value.bool (o).opaq), (Value.int .i64 (o).id), (Value.string ⟨((o).scheme).toArray⟩), (Value.string ⟨(((o).host).name).toArray⟩), (Value.bool ((o).host).v4), (Value.int .u32 (((o).host).addr : Int)), (Value.int .i64 (o).port)] := by rw [← hW0]; exact (Blk.alloc (Blk.new _ _ _) _)
  have hBH : Blk W0 (w.heap.size + 1) 31 #[(Value.string ⟨((u).scheme).toArray⟩), (Value.string ⟨(((u).host).name).toArray⟩), (Value.bool ((u).host).v4), (Value.int .u32 (((u).host).addr : Int)), (Value.int .i64 (u).port), (Value.string ⟨((u).path).toArray⟩), (Value.bool (u).hasQuery), (Value.string ⟨((u).query).toArray⟩), (Value.string ⟨((u).rest).toArray⟩), .slice A3 hl.length d3] := by rw [← hW0]; exact (by have := Blk.new (w.alloc (Obj.cells #[(Value.bool (o).opaq), (Value.int .i64 (o).id), (Value.string ⟨((o).scheme).toArray⟩), (Value.string ⟨(((o).host).name).toArray⟩), (Value.bool ((o).host).v4), (Value.int .u32 (((o).host).addr : Int)), (Value.int .i64 (o).port)] 35)) 31 #[(Value.string ⟨((u).scheme).toArray⟩), (Value.string ⟨(((u).host).name).toArray⟩), (Value.bool ((u).host).v4), (Value.int .u32 (((u).host).addr : Int)), (Value.int .i64 (u).port), (Value.string ⟨((u).path).toArray⟩), (Value.bool (u).hasQuery), (Value.string ⟨((u).query).toArray⟩), (Value.string ⟨((u).rest).toArray⟩), .slice A3 hl.length d3]; simpa [World.size_alloc] using this)
  clear hW0
  have hwz := hw0.size
  have hOl := hBO.lt
  have hOc := hBO.cell
  have hOf := hBO.frozen
  have hHl := hBH.lt
  have hHc := hBH.cell
  have hHf := hBH.frozen
  cases q1
  · go_wp2_with (first | ((first | (go_at_call 26; refine (h1.out _ _ (bw_) (bk_)).mono ?_) | (go_at_call 18; refine (h2.out _ (bw_)).mono ?_)); rintro e w1 ⟨rfl, hb⟩; obtain ⟨hc, hfz⟩ := bcell hb; have hz := hb.size; (try simp at hz); (try have hz0 := lt_ hb w.heap.size); (try have hz1 := lt_ hb (w.heap.size + 1)); (try have hz2 := lt_ hb (w.heap.size + 2)); (try have hz3 := lt_ hb (w.heap.size + 3)); (try have hcA := fun o => hc w.heap.size o sz_); (try have hcB := fun o => hc (w.heap.size + 1) o sz_); (try (have i := cf_ hb g; obtain ⟨hcGg, hfGg, hzGg⟩ := i))))
    go_ret
    exact ⟨rfl, bw_⟩
  · go_wp2_with (first | ((first | (go_at_call 26; refine (h1.out _ _ (bw_) (bk_)).mono ?_) | (go_at_call 18; refine (h2.out _ (bw_)).mono ?_)); rintro e w1 ⟨rfl, hb⟩; obtain ⟨hc, hfz⟩ := bcell hb; have hz := hb.size; (try simp at hz); (try have hz0 := lt_ hb w.heap.size); (try have hz1 := lt_ hb (w.heap.size + 1)); (try have hz2 := lt_ hb (w.heap.size + 2)); (try have hz3 := lt_ hb (w.heap.size + 3)); (try have hcA := fun o => hc w.heap.size o sz_); (try have hcB := fun o => hc (w.heap.size + 1) o sz_); (try (have i := cf_ hb g; obtain ⟨hcGg, hfGg, hzGg⟩ := i))))
    go_ret
    exact ⟨rfl, bw_⟩
end Go.Proofs.YtbafofldgkigmaaGreatDoor
