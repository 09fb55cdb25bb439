/- Origins: are two the same, and of one site? Of the program and of the reference. -/
import Derived.Test.YthmgcnaoionmoaaDoorOrigEq
import Derived.Test.YthmgcnaoionmoaaDoorOrig0
import Derived.Test.YthmgcnaoionmoaaDoorSite3
import Derived.Deep.RegionHeld3
namespace Go.Proofs.YthmgcnaoionmoaaDoor
open Go.RowKit
attribute [local irreducible] Calls

def bareO (o : Gl.Origin) : Gl.Origin := if o.opaq then { opaq := true, id := o.id } else { o with id := 0 }
theorem host_beq (a b : Gl.Host) : (a == b) = ((a.name == b.name) && (a.v4 == b.v4) && ((a.addr : Int) == (b.addr : Int))) := by
  obtain ⟨n, v, x⟩ := a
  obtain ⟨m, u, y⟩ := b
  rw [Bool.eq_iff_iff]
  simp [and_assoc]
  intros
  omega
theorem bare_same (a b : Gl.Origin) : eqO (bareO a).opaq (bareO a).id (bareO a).scheme (bareO a).host.name (bareO a).host.v4 ((bareO a).host.addr : Int) (bareO a).port (bareO b).opaq (bareO b).id (bareO b).scheme (bareO b).host.name (bareO b).host.v4 ((bareO b).host.addr : Int) (bareO b).port = Gl.originSame a b := by
  unfold eqO
  show (((bareO a).opaq == (bareO b).opaq) && ((bareO a).id == (bareO b).id) && ((bareO a).scheme == (bareO b).scheme) && ((bareO a).host.name == (bareO b).host.name) && ((bareO a).host.v4 == (bareO b).host.v4) && (((bareO a).host.addr : Int) == ((bareO b).host.addr : Int)) && ((bareO a).port == (bareO b).port)) = Gl.originSame a b
  obtain ⟨q, i, s, h, p⟩ := a
  obtain ⟨r, j, t, g, o⟩ := b
  unfold Gl.originSame bareO
  cases q <;> cases r <;> simp [host_beq, Bool.and_assoc]
theorem origin_bare (o : Gl.Origin) (w : World) : Calls Tryd.prog 65 #[(Value.agg #[(Value.bool (o).opaq), (Value.int .i64 (o).id), (Value.string ⟨((o).scheme).toArray⟩), (Value.string ⟨(((o).host).name).toArray⟩), (Value.bool ((o).host).v4), (Value.int .u32 (((o).host).addr : Int)), (Value.int .i64 (o).port)])] w (Ret w ((Value.agg #[(Value.bool (bareO o).opaq), (Value.int .i64 (bareO o).id), (Value.string ⟨((bareO o).scheme).toArray⟩), (Value.string ⟨(((bareO o).host).name).toArray⟩), (Value.bool ((bareO o).host).v4), (Value.int .u32 (((bareO o).host).addr : Int)), (Value.int .i64 (bareO o).port)]))) := by
  obtain ⟨q, i, s, h, p⟩ := o
  cases q <;> unfold bareO <;> simp only [Bool.false_eq_true, if_false, if_true]
  all_goals
    go_enter Tryd.func65, Tryd.ntmps65
    go_wp2
  · refine bodyPost_ret (v := (Value.agg #[.bool false, .int .i64 0, (Value.string ⟨(s).toArray⟩), (Value.string ⟨((h).name).toArray⟩), (Value.bool (h).v4), (Value.int .u32 ((h).addr : Int)), .int .i64 p])) (by simp only [results, Tryd.results65]; go_simp) rfl ⟨rfl, ?_⟩
    (repeat' first | (with_reducible exact Below.refl _ _) | (with_reducible refine Below.setCell ?_ (by first | omega | (simp; done) | (simp; omega)) _) | (with_reducible refine Below.alloc ?_ (by first | omega | (simp; done) | (simp; omega)) _) | refine below_drewN ?_ _ | refine Below.drew ?_ | (refine below_thru (by assumption) ?_ (by first | omega | (simp; done) | (simp; omega))) | exact Below.refl _ _)
  · refine bodyPost_ret (v := (Value.agg #[.bool true, .int .i64 i, .string ⟨#[]⟩, .string ⟨#[]⟩, .bool false, .int .u32 0, .int .i64 0])) (by simp only [results, Tryd.results65]; go_simp) rfl ⟨rfl, ?_⟩
    (repeat' first | (with_reducible exact Below.refl _ _) | (with_reducible refine Below.setCell ?_ (by first | omega | (simp; done) | (simp; omega)) _) | (with_reducible refine Below.alloc ?_ (by first | omega | (simp; done) | (simp; omega)) _) | refine below_drewN ?_ _ | refine Below.drew ?_ | (refine below_thru (by assumption) ?_ (by first | omega | (simp; done) | (simp; omega))) | exact Below.refl _ _)
set_option maxHeartbeats 1000000 in
theorem origin_same (a b : Gl.Origin) (w : World) : Calls Tryd.prog 31 #[(Value.agg #[(Value.bool (a).opaq), (Value.int .i64 (a).id), (Value.string ⟨((a).scheme).toArray⟩), (Value.string ⟨(((a).host).name).toArray⟩), (Value.bool ((a).host).v4), (Value.int .u32 (((a).host).addr : Int)), (Value.int .i64 (a).port)]), (Value.agg #[(Value.bool (b).opaq), (Value.int .i64 (b).id), (Value.string ⟨((b).scheme).toArray⟩), (Value.string ⟨(((b).host).name).toArray⟩), (Value.bool ((b).host).v4), (Value.int .u32 (((b).host).addr : Int)), (Value.int .i64 (b).port)])] w (Ret w (.bool (Gl.originSame a b))) := by
  have hs := bare_same a b
  generalize Gl.originSame a b = R at *
  have h1 := fun W => origin_bare a W
  have h2 := fun W => origin_bare b W
  generalize bareO a = x at *
  generalize bareO b = y at *
  replace h1 := Lib.hid h1
  replace h2 := Lib.hid h2
  go_enter Tryd.func31, Tryd.ntmps31
  go_wp2_with fail
  generalize hW0 : ((w.alloc (Obj.cells #[(Value.bool (a).opaq), (Value.int .i64 (a).id), (Value.string ⟨((a).scheme).toArray⟩), (Value.string ⟨(((a).host).name).toArray⟩), (Value.bool ((a).host).v4), (Value.int .u32 (((a).host).addr : Int)), (Value.int .i64 (a).port)] 40)).alloc (Obj.cells #[(Value.bool (b).opaq), (Value.int .i64 (b).id), (Value.string ⟨((b).scheme).toArray⟩), (Value.string ⟨(((b).host).name).toArray⟩), (Value.bool ((b).host).v4), (Value.int .u32 (((b).host).addr : Int)), (Value.int .i64 (b).port)] 40)) = W0
  have hw0 : Below w.heap.size w W0 := by rw [← hW0]; (repeat' first | (with_reducible exact Below.refl _ _) | (with_reducible refine Below.setCell ?_ (by first | omega | (simp; done) | (simp; omega)) _) | (with_reducible refine Below.alloc ?_ (by first | omega | (simp; done) | (simp; omega)) _) | refine below_drewN ?_ _ | refine Below.drew ?_ | (refine below_thru (by assumption) ?_ (by first | omega | (simp; done) | (simp; omega))) | exact Below.refl _ _)
  have hBA : Blk W0 (w.heap.size) 40 #[(Value.bool (a).opaq), (Value.int .i64 (a).id), (Value.string ⟨((a).scheme).toArray⟩), (Value.string ⟨(((a).host).name).toArray⟩), (Value.bool ((a).host).v4), (Value.int .u32 (((a).host).addr : Int)), (Value.int .i64 (a).port)] := by rw [← hW0]; exact (Blk.alloc (Blk.new _ _ _) _)
  have hBB : Blk W0 (w.heap.size + 1) 40 #[(Value.bool (b).opaq), (Value.int .i64 (b).id), (Value.string ⟨((b).scheme).toArray⟩), (Value.string ⟨(((b).host).name).toArray⟩), (Value.bool ((b).host).v4), (Value.int .u32 (((b).host).addr : Int)), (Value.int .i64 (b).port)] := by rw [← hW0]; exact (by have := Blk.new (w.alloc (Obj.cells #[(Value.bool (a).opaq), (Value.int .i64 (a).id), (Value.string ⟨((a).scheme).toArray⟩), (Value.string ⟨(((a).host).name).toArray⟩), (Value.bool ((a).host).v4), (Value.int .u32 (((a).host).addr : Int)), (Value.int .i64 (a).port)] 40)) 40 #[(Value.bool (b).opaq), (Value.int .i64 (b).id), (Value.string ⟨((b).scheme).toArray⟩), (Value.string ⟨(((b).host).name).toArray⟩), (Value.bool ((b).host).v4), (Value.int .u32 (((b).host).addr : Int)), (Value.int .i64 (b).port)]; simpa [World.size_alloc] using this)
  have hAl := hBA.lt
  have hAc := hBA.cell
  have hAf := hBA.frozen
  have hBl := hBB.lt
  have hBc := hBB.cell
  have hBf := hBB.frozen
  clear hW0
  go_region_held3 (fun W => Below w.heap.size w W ∧ w.heap.size < W.heap.size ∧ w.heap.size + 1 < W.heap.size ∧ (∀ n0, W.cell? ⟨w.heap.size, n0, none⟩ = (#[(Value.bool (a).opaq), (Value.int .i64 (a).id), (Value.string ⟨((a).scheme).toArray⟩), (Value.string ⟨(((a).host).name).toArray⟩), (Value.bool ((a).host).v4), (Value.int .u32 (((a).host).addr : Int)), (Value.int .i64 (a).port)] : Array Value)[n0]?) ∧ (∀ n0, W.cell? ⟨w.heap.size + 1, n0, none⟩ = (#[(Value.bool (b).opaq), (Value.int .i64 (b).id), (Value.string ⟨((b).scheme).toArray⟩), (Value.string ⟨(((b).host).name).toArray⟩), (Value.bool ((b).host).v4), (Value.int .u32 (((b).host).addr : Int)), (Value.int .i64 (b).port)] : Array Value)[n0]?)) ((refine ⟨by (repeat' first | (with_reducible exact Below.refl _ _) | (with_reducible refine Below.setCell ?_ (by first | omega | (simp; done) | (simp; omega)) _) | (with_reducible refine Below.alloc ?_ (by first | omega | (simp; done) | (simp; omega)) _) | refine below_drewN ?_ _ | refine Below.drew ?_ | (refine below_thru (by assumption) ?_ (by first | omega | (simp; done) | (simp; omega))) | exact Below.refl _ _), ?_⟩; simp [*]))
    (first | (go_at_call 65; refine ( h1.out _).mono ?_; rintro e w1 ⟨rfl, hb⟩; obtain ⟨hc, hfz⟩ := bcell hb; have hz := hb.size; (try simp at hz); (try have hz0 : w.heap.size < w1.heap.size := by omega); (try have hz1 : w.heap.size + 1 < w1.heap.size := by omega); (try have hz2 : w.heap.size + 2 < w1.heap.size := by omega); (try have hz3 : w.heap.size + 3 < w1.heap.size := by omega); (try have hcA := fun o => hc w.heap.size o (by first | omega | (simp; omega))); (try have hcB := fun o => hc (w.heap.size + 1) o (by first | omega | (simp; omega))); (try have hcGg := fun o => hc g o (by first | omega | (simp; omega))); (try have hfGg := fun o => hfz g o (by first | omega | (simp; omega))); (try have hzGg : g < w1.heap.size := by omega); (try have hcGgA := fun o => hc gA o (by first | omega | (simp; omega))); (try have hfGgA := fun o => hfz gA o (by first | omega | (simp; omega))); (try have hzGgA : gA < w1.heap.size := by omega); (try have hcGgB := fun o => hc gB o (by first | omega | (simp; omega))); (try have hfGgB := fun o => hfz gB o (by first | omega | (simp; omega))); (try have hzGgB : gB < w1.heap.size := by omega); (try have hcGgV := fun o => hc gV o (by first | omega | (simp; omega))); (try have hfGgV := fun o => hfz gV o (by first | omega | (simp; omega))); (try have hzGgV : gV < w1.heap.size := by omega)) | (go_at_call 65; refine ( h2.out _).mono ?_; rintro e w1 ⟨rfl, hb⟩; obtain ⟨hc, hfz⟩ := bcell hb; have hz := hb.size; (try simp at hz); (try have hz0 : w.heap.size < w1.heap.size := by omega); (try have hz1 : w.heap.size + 1 < w1.heap.size := by omega); (try have hz2 : w.heap.size + 2 < w1.heap.size := by omega); (try have hz3 : w.heap.size + 3 < w1.heap.size := by omega); (try have hcA := fun o => hc w.heap.size o (by first | omega | (simp; omega))); (try have hcB := fun o => hc (w.heap.size + 1) o (by first | omega | (simp; omega))); (try have hcGg := fun o => hc g o (by first | omega | (simp; omega))); (try have hfGg := fun o => hfz g o (by first | omega | (simp; omega))); (try have hzGg : g < w1.heap.size := by omega); (try have hcGgA := fun o => hc gA o (by first | omega | (simp; omega))); (try have hfGgA := fun o => hfz gA o (by first | omega | (simp; omega))); (try have hzGgA : gA < w1.heap.size := by omega); (try have hcGgB := fun o => hc gB o (by first | omega | (simp; omega))); (try have hfGgB := fun o => hfz gB o (by first | omega | (simp; omega))); (try have hzGgB : gB < w1.heap.size := by omega); (try have hcGgV := fun o => hc gV o (by first | omega | (simp; omega))); (try have hfGgV := fun o => hfz gV o (by first | omega | (simp; omega))); (try have hzGgV : gV < w1.heap.size := by omega)))
  all_goals go_wp2_with fail
  all_goals go_ret
  all_goals exact ⟨rfl, by (repeat' first | (with_reducible exact Below.refl _ _) | (with_reducible refine Below.setCell ?_ (by first | omega | (simp; done) | (simp; omega)) _) | (with_reducible refine Below.alloc ?_ (by first | omega | (simp; done) | (simp; omega)) _) | refine below_drewN ?_ _ | refine Below.drew ?_ | (refine below_thru (by assumption) ?_ (by first | omega | (simp; done) | (simp; omega))) | exact Below.refl _ _)⟩
set_option maxHeartbeats 1000000 in
theorem ref4_same (a b : Gl.Origin) (w : World) : Calls Tryd.prog 32 #[(Value.agg #[(Value.bool (a).opaq), (Value.int .i64 (a).id), (Value.string ⟨((a).scheme).toArray⟩), (Value.string ⟨(((a).host).name).toArray⟩), (Value.bool ((a).host).v4), (Value.int .u32 (((a).host).addr : Int)), (Value.int .i64 (a).port)]), (Value.agg #[(Value.bool (b).opaq), (Value.int .i64 (b).id), (Value.string ⟨((b).scheme).toArray⟩), (Value.string ⟨(((b).host).name).toArray⟩), (Value.bool ((b).host).v4), (Value.int .u32 (((b).host).addr : Int)), (Value.int .i64 (b).port)])] w (Ret w (.bool (Gl.originSame a b))) := by
  have hR : Gl.originSame a b = if a.opaq && b.opaq then a.id == b.id else !a.opaq && !b.opaq && a.scheme == b.scheme && a.host == b.host && a.port == b.port := rfl
  rw [host_beq] at hR
  generalize Gl.originSame a b = R at *
  obtain ⟨q, i, s, h, p⟩ := a
  obtain ⟨r, j, t, g, o⟩ := b
  simp only at hR ⊢
  cases q <;> cases r
  · have hE : eqH h.name h.v4 (h.addr : Int) g.name g.v4 (g.addr : Int) = ((h.name == g.name) && (h.v4 == g.v4) && ((h.addr : Int) == (g.addr : Int))) := rfl
    rw [← hE] at hR
    clear hE
    cases h1 : (s == t) with
    | false =>
      rw [h1] at hR
      have hf : Hid (R = false) := Lib.hid (by rw [hR]; simp)
      clear hR
      go_enter Tryd.func32, Tryd.ntmps32
      go_wp2
      go_ret
      exact ⟨by rw [hf.out] <;> rfl, by (repeat' first | (with_reducible exact Below.refl _ _) | (with_reducible refine Below.setCell ?_ (by first | omega | (simp; done) | (simp; omega)) _) | (with_reducible refine Below.alloc ?_ (by first | omega | (simp; done) | (simp; omega)) _) | refine below_drewN ?_ _ | refine Below.drew ?_ | (refine below_thru (by assumption) ?_ (by first | omega | (simp; done) | (simp; omega))) | exact Below.refl _ _)⟩
    | true =>
      cases h2 : eqH h.name h.v4 (h.addr : Int) g.name g.v4 (g.addr : Int) with
      | false =>
        rw [h1, h2] at hR
        have hf : Hid (R = false) := Lib.hid (by rw [hR]; simp)
        clear hR
        go_enter Tryd.func32, Tryd.ntmps32
        go_wp2
        go_ret
        exact ⟨by rw [hf.out] <;> rfl, by (repeat' first | (with_reducible exact Below.refl _ _) | (with_reducible refine Below.setCell ?_ (by first | omega | (simp; done) | (simp; omega)) _) | (with_reducible refine Below.alloc ?_ (by first | omega | (simp; done) | (simp; omega)) _) | refine below_drewN ?_ _ | refine Below.drew ?_ | (refine below_thru (by assumption) ?_ (by first | omega | (simp; done) | (simp; omega))) | exact Below.refl _ _)⟩
      | true =>
        cases h3 : (p == o) with
        | false =>
          rw [h1, h2, h3] at hR
          have hf : Hid (R = false) := Lib.hid (by rw [hR]; simp)
          clear hR
          go_enter Tryd.func32, Tryd.ntmps32
          go_wp2
          go_ret
          exact ⟨by rw [hf.out] <;> rfl, by (repeat' first | (with_reducible exact Below.refl _ _) | (with_reducible refine Below.setCell ?_ (by first | omega | (simp; done) | (simp; omega)) _) | (with_reducible refine Below.alloc ?_ (by first | omega | (simp; done) | (simp; omega)) _) | refine below_drewN ?_ _ | refine Below.drew ?_ | (refine below_thru (by assumption) ?_ (by first | omega | (simp; done) | (simp; omega))) | exact Below.refl _ _)⟩
        | true =>
          rw [h1, h2, h3] at hR
          have hf : Hid (R = true) := Lib.hid (by rw [hR]; simp)
          clear hR
          go_enter Tryd.func32, Tryd.ntmps32
          go_wp2
          go_ret
          exact ⟨by rw [hf.out] <;> rfl, by (repeat' first | (with_reducible exact Below.refl _ _) | (with_reducible refine Below.setCell ?_ (by first | omega | (simp; done) | (simp; omega)) _) | (with_reducible refine Below.alloc ?_ (by first | omega | (simp; done) | (simp; omega)) _) | refine below_drewN ?_ _ | refine Below.drew ?_ | (refine below_thru (by assumption) ?_ (by first | omega | (simp; done) | (simp; omega))) | exact Below.refl _ _)⟩
  · have hf : Hid (R = false) := Lib.hid (by rw [hR]; simp)
    clear hR
    go_enter Tryd.func32, Tryd.ntmps32
    go_wp2
    go_ret
    exact ⟨by rw [hf.out] <;> rfl, by (repeat' first | (with_reducible exact Below.refl _ _) | (with_reducible refine Below.setCell ?_ (by first | omega | (simp; done) | (simp; omega)) _) | (with_reducible refine Below.alloc ?_ (by first | omega | (simp; done) | (simp; omega)) _) | refine below_drewN ?_ _ | refine Below.drew ?_ | (refine below_thru (by assumption) ?_ (by first | omega | (simp; done) | (simp; omega))) | exact Below.refl _ _)⟩
  · have hf : Hid (R = false) := Lib.hid (by rw [hR]; simp)
    clear hR
    go_enter Tryd.func32, Tryd.ntmps32
    go_wp2
    go_ret
    exact ⟨by rw [hf.out] <;> rfl, by (repeat' first | (with_reducible exact Below.refl _ _) | (with_reducible refine Below.setCell ?_ (by first | omega | (simp; done) | (simp; omega)) _) | (with_reducible refine Below.alloc ?_ (by first | omega | (simp; done) | (simp; omega)) _) | refine below_drewN ?_ _ | refine Below.drew ?_ | (refine below_thru (by assumption) ?_ (by first | omega | (simp; done) | (simp; omega))) | exact Below.refl _ _)⟩
  · have hf : Hid (R = (i == j)) := Lib.hid (by rw [hR]; simp)
    clear hR
    go_enter Tryd.func32, Tryd.ntmps32
    go_wp2
    go_ret
    exact ⟨by rw [hf.out] <;> rfl, by (repeat' first | (with_reducible exact Below.refl _ _) | (with_reducible refine Below.setCell ?_ (by first | omega | (simp; done) | (simp; omega)) _) | (with_reducible refine Below.alloc ?_ (by first | omega | (simp; done) | (simp; omega)) _) | refine below_drewN ?_ _ | refine Below.drew ?_ | (refine below_thru (by assumption) ?_ (by first | omega | (simp; done) | (simp; omega))) | exact Below.refl _ _)⟩
end Go.Proofs.YthmgcnaoionmoaaDoor
