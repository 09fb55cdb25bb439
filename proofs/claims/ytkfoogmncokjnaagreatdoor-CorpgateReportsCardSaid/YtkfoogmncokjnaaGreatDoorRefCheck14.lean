/- glacisref14.Check. -/
import Derived.Test.YtkfoogmncokjnaaGreatDoorRefInner14
import Derived.Test.YtkfoogmncokjnaaGreatDoorCheck14
namespace Go.Proofs.YtkfoogmncokjnaaGreatDoor
open Go.RowKit
attribute [local irreducible] Calls
set_option maxRecDepth 100000 in
set_option maxHeartbeats 4000000 in
theorem ref14_check (o : Gl.Origin) (ev er : Int) (et eu : List UInt8) (nav creds : Bool) (u : Gl.URL) (vh : Value) (hl : List Gl.Head) (v : Value) (S : List (List UInt8)) (w : World) (hE : Env w) (ho : OFits o) (hH : Heads w vh hl) (hf : HopFit u hl) (hv : Sufs w v S) :
    Calls Tryz.prog 26 #[(Value.agg #[(Value.bool (o).opaq), (Value.int .i64 (o).id), (Value.string ⟨((o).scheme).toArray⟩), (Value.string ⟨(((o).host).name).toArray⟩), (Value.bool ((o).host).v4), (Value.int .u32 (((o).host).addr : Int)), (Value.int .i64 (o).port)]), .agg #[.int .i64 ev, (Value.string ⟨(et).toArray⟩), .int .i64 er, (Value.string ⟨(eu).toArray⟩)], .bool nav, .agg #[(Value.string ⟨((u).scheme).toArray⟩), (Value.string ⟨(((u).host).name).toArray⟩), (Value.bool ((u).host).v4), (Value.int .u32 (((u).host).addr : Int)), (Value.int .i64 (u).port), (Value.string ⟨((u).path).toArray⟩), (Value.bool (u).hasQuery), (Value.string ⟨((u).query).toArray⟩), (Value.string ⟨((u).rest).toArray⟩), vh], .bool creds, v] w (Ret w (Gl.gateV (Gl.gate o u hl 0 creds nav S) (Gl.gate o u hl ev creds nav S) (Gl.gate o u hl er creds nav S))) := by
  have hlt : ∀ k W, Below w.heap.size w W → Calls Tryz.prog 24 #[(Value.agg #[(Value.bool (o).opaq), (Value.int .i64 (o).id), (Value.string ⟨((o).scheme).toArray⟩), (Value.string ⟨(((o).host).name).toArray⟩), (Value.bool ((o).host).v4), (Value.int .u32 (((o).host).addr : Int)), (Value.int .i64 (o).port)]), .int .i64 k, .bool nav, .agg #[(Value.string ⟨((u).scheme).toArray⟩), (Value.string ⟨(((u).host).name).toArray⟩), (Value.bool ((u).host).v4), (Value.int .u32 (((u).host).addr : Int)), (Value.int .i64 (u).port), (Value.string ⟨((u).path).toArray⟩), (Value.bool (u).hasQuery), (Value.string ⟨((u).query).toArray⟩), (Value.string ⟨((u).rest).toArray⟩), vh], .bool creds, v] W (Ret W (.bool (Gl.gate o u hl k creds nav S))) := fun k W hW => ref14_inner o k nav creds u vh hl v S W (hE.below hW) ho (hH.below hW) hf (hv.below hW)
  obtain ⟨A3, d3, rfl⟩ := hH.form
  obtain ⟨vA, vc, rfl, _⟩ := id hv.strs
  have h0 := hlt 0
  have h1 := hlt ev
  have h2 := hlt er
  generalize Gl.gate o u hl 0 creds nav S = g0 at *
  generalize Gl.gate o u hl ev creds nav S = g1 at *
  generalize Gl.gate o u hl er creds nav S = g2 at *
  replace h0 := Lib.hid h0
  replace h1 := Lib.hid h1
  replace h2 := Lib.hid h2
  clear hE ho hH hf hv hlt
  go_enter Tryz.func26, Tryz.ntmps26
  go_upto_region 1 with fail
  generalize hW0 : ((((w.alloc (Obj.cells #[(Value.bool (o).opaq), (Value.int .i64 (o).id), (Value.string ⟨((o).scheme).toArray⟩), (Value.string ⟨(((o).host).name).toArray⟩), (Value.bool ((o).host).v4), (Value.int .u32 (((o).host).addr : Int)), (Value.int .i64 (o).port)] 31)).alloc (Obj.cells #[.int .i64 ev, (Value.string ⟨(et).toArray⟩), .int .i64 er, (Value.string ⟨(eu).toArray⟩)] 24)).alloc (Obj.cells #[(Value.string ⟨((u).scheme).toArray⟩), (Value.string ⟨(((u).host).name).toArray⟩), (Value.bool ((u).host).v4), (Value.int .u32 (((u).host).addr : Int)), (Value.int .i64 (u).port), (Value.string ⟨((u).path).toArray⟩), (Value.bool (u).hasQuery), (Value.string ⟨((u).query).toArray⟩), (Value.string ⟨((u).rest).toArray⟩), .slice A3 hl.length d3] 51)).alloc (Obj.cells #[.bool false, .bool false, .bool false] 40)) = W0
  have hw0 : Below w.heap.size w W0 := by rw [← hW0]; (repeat' first | (with_reducible exact Below.refl _ _) | (with_reducible refine Below.setCell ?_ (by first | omega | (simp; done) | (simp; omega)) _) | (with_reducible refine Below.alloc ?_ (by first | omega | (simp; done) | (simp; omega)) _) | refine below_drewN ?_ _ | refine Below.drew ?_ | (refine below_thru (by assumption) ?_ (by first | omega | (simp; done) | (simp; omega))) | exact Below.refl _ _)
  have hBO : Blk W0 (w.heap.size) 31 #[(Value.bool (o).opaq), (Value.int .i64 (o).id), (Value.string ⟨((o).scheme).toArray⟩), (Value.string ⟨(((o).host).name).toArray⟩), (Value.bool ((o).host).v4), (Value.int .u32 (((o).host).addr : Int)), (Value.int .i64 (o).port)] := by rw [← hW0]; exact (Blk.alloc (Blk.alloc (Blk.alloc (Blk.new _ _ _) _) _) _)
  have hBE : Blk W0 (w.heap.size + 1) 24 #[.int .i64 ev, (Value.string ⟨(et).toArray⟩), .int .i64 er, (Value.string ⟨(eu).toArray⟩)] := by rw [← hW0]; exact (Blk.alloc (Blk.alloc (by have := Blk.new (w.alloc (Obj.cells #[(Value.bool (o).opaq), (Value.int .i64 (o).id), (Value.string ⟨((o).scheme).toArray⟩), (Value.string ⟨(((o).host).name).toArray⟩), (Value.bool ((o).host).v4), (Value.int .u32 (((o).host).addr : Int)), (Value.int .i64 (o).port)] 31)) 24 #[.int .i64 ev, (Value.string ⟨(et).toArray⟩), .int .i64 er, (Value.string ⟨(eu).toArray⟩)]; simpa [World.size_alloc] using this) _) _)
  have hBH : Blk W0 (w.heap.size + 2) 51 #[(Value.string ⟨((u).scheme).toArray⟩), (Value.string ⟨(((u).host).name).toArray⟩), (Value.bool ((u).host).v4), (Value.int .u32 (((u).host).addr : Int)), (Value.int .i64 (u).port), (Value.string ⟨((u).path).toArray⟩), (Value.bool (u).hasQuery), (Value.string ⟨((u).query).toArray⟩), (Value.string ⟨((u).rest).toArray⟩), .slice A3 hl.length d3] := by rw [← hW0]; exact (Blk.alloc (by have := Blk.new ((w.alloc (Obj.cells #[(Value.bool (o).opaq), (Value.int .i64 (o).id), (Value.string ⟨((o).scheme).toArray⟩), (Value.string ⟨(((o).host).name).toArray⟩), (Value.bool ((o).host).v4), (Value.int .u32 (((o).host).addr : Int)), (Value.int .i64 (o).port)] 31)).alloc (Obj.cells #[.int .i64 ev, (Value.string ⟨(et).toArray⟩), .int .i64 er, (Value.string ⟨(eu).toArray⟩)] 24)) 51 #[(Value.string ⟨((u).scheme).toArray⟩), (Value.string ⟨(((u).host).name).toArray⟩), (Value.bool ((u).host).v4), (Value.int .u32 (((u).host).addr : Int)), (Value.int .i64 (u).port), (Value.string ⟨((u).path).toArray⟩), (Value.bool (u).hasQuery), (Value.string ⟨((u).query).toArray⟩), (Value.string ⟨((u).rest).toArray⟩), .slice A3 hl.length d3]; simpa [World.size_alloc] using this) _)
  have hBG : Blk W0 (w.heap.size + 3) 40 #[.bool false, .bool false, .bool false] := by rw [← hW0]; exact (by have := Blk.new (((w.alloc (Obj.cells #[(Value.bool (o).opaq), (Value.int .i64 (o).id), (Value.string ⟨((o).scheme).toArray⟩), (Value.string ⟨(((o).host).name).toArray⟩), (Value.bool ((o).host).v4), (Value.int .u32 (((o).host).addr : Int)), (Value.int .i64 (o).port)] 31)).alloc (Obj.cells #[.int .i64 ev, (Value.string ⟨(et).toArray⟩), .int .i64 er, (Value.string ⟨(eu).toArray⟩)] 24)).alloc (Obj.cells #[(Value.string ⟨((u).scheme).toArray⟩), (Value.string ⟨(((u).host).name).toArray⟩), (Value.bool ((u).host).v4), (Value.int .u32 (((u).host).addr : Int)), (Value.int .i64 (u).port), (Value.string ⟨((u).path).toArray⟩), (Value.bool (u).hasQuery), (Value.string ⟨((u).query).toArray⟩), (Value.string ⟨((u).rest).toArray⟩), .slice A3 hl.length d3] 51)) 40 #[.bool false, .bool false, .bool false]; simpa [World.size_alloc] using this)
  clear hW0
  have hwz := hw0.size
  have hOl := hBO.lt
  have hOc := hBO.cell
  have hOf := hBO.frozen
  have hEl := hBE.lt
  have hEc := hBE.cell
  have hEf := hBE.frozen
  have hHl := hBH.lt
  have hHc := hBH.cell
  have hHf := hBH.frozen
  have hGl := hBG.lt
  have hGc := hBG.cell
  have hGf := hBG.frozen
  cases g0
  · go_wp2_with (first | (go_at_call 24; refine ( h0.out _ (by (repeat' first | (with_reducible exact Below.refl _ _) | (with_reducible refine Below.setCell ?_ (by first | omega | (simp; done) | (simp; omega)) _) | (with_reducible refine Below.alloc ?_ (by first | omega | (simp; done) | (simp; omega)) _) | refine below_drewN ?_ _ | refine Below.drew ?_ | (refine below_thru (by assumption) ?_ (by first | omega | (simp; done) | (simp; omega))) | exact Below.refl _ _))).mono ?_; rintro e w1 ⟨rfl, hb⟩; obtain ⟨hc, hfz⟩ := bcell hb; have hz := hb.size; (try simp at hz); (try have hz0 : w.heap.size < w1.heap.size := by omega); (try have hz1 : w.heap.size + 1 < w1.heap.size := by omega); (try have hz2 : w.heap.size + 2 < w1.heap.size := by omega); (try have hz3 : w.heap.size + 3 < w1.heap.size := by omega); (try have hcA := fun o => hc w.heap.size o (by first | omega | (simp; omega))); (try have hcB := fun o => hc (w.heap.size + 1) o (by first | omega | (simp; omega)))))
    have hG1 : Blk w1 (w.heap.size + 1 + 1 + 1) 40 #[.bool false, .bool false, .bool false] := by (repeat' first | (with_reducible assumption) | (with_reducible exact Blk.new _ _ _) | (with_reducible refine Blk.drew_ ?_) | (with_reducible refine Blk.alloc ?_ _) | (refine Blk.below ?_ (by assumption) (by first | omega | (simp; done) | (simp; omega))))
    have hG2 := ((hG1.set_ 0 (.bool false)).set_ 1 (.bool false)).set_ 2 (.bool false)
    have k0 := hG2.cell 0
    have k1 := hG2.cell 1
    have k2 := hG2.cell 2
    refine bodyPost_ret (v := .agg #[.bool false, .bool false, .bool false]) (by simp only [results, Tryz.results26]; go_simp) rfl ⟨rfl, ?_⟩
    (repeat' first | (with_reducible exact Below.refl _ _) | (with_reducible refine Below.setCell ?_ (by first | omega | (simp; done) | (simp; omega)) _) | (with_reducible refine Below.alloc ?_ (by first | omega | (simp; done) | (simp; omega)) _) | refine below_drewN ?_ _ | refine Below.drew ?_ | (refine below_thru (by assumption) ?_ (by first | omega | (simp; done) | (simp; omega))) | exact Below.refl _ _)
  · go_upto_region 4 with (first | (go_at_call 24; refine ( h0.out _ (by (repeat' first | (with_reducible exact Below.refl _ _) | (with_reducible refine Below.setCell ?_ (by first | omega | (simp; done) | (simp; omega)) _) | (with_reducible refine Below.alloc ?_ (by first | omega | (simp; done) | (simp; omega)) _) | refine below_drewN ?_ _ | refine Below.drew ?_ | (refine below_thru (by assumption) ?_ (by first | omega | (simp; done) | (simp; omega))) | exact Below.refl _ _))).mono ?_; rintro e w1 ⟨rfl, hb⟩; obtain ⟨hc, hfz⟩ := bcell hb; have hz := hb.size; (try simp at hz); (try have hz0 : w.heap.size < w1.heap.size := by omega); (try have hz1 : w.heap.size + 1 < w1.heap.size := by omega); (try have hz2 : w.heap.size + 2 < w1.heap.size := by omega); (try have hz3 : w.heap.size + 3 < w1.heap.size := by omega); (try have hcA := fun o => hc w.heap.size o (by first | omega | (simp; omega))); (try have hcB := fun o => hc (w.heap.size + 1) o (by first | omega | (simp; omega)))))
    go_cut [14] from 16 (fun x14 w' => x14 = .bool g1 ∧ Below w.heap.size w w' ∧ Blk w' (w.heap.size) 31 #[(Value.bool (o).opaq), (Value.int .i64 (o).id), (Value.string ⟨((o).scheme).toArray⟩), (Value.string ⟨(((o).host).name).toArray⟩), (Value.bool ((o).host).v4), (Value.int .u32 (((o).host).addr : Int)), (Value.int .i64 (o).port)] ∧ Blk w' (w.heap.size + 1) 24 #[.int .i64 ev, (Value.string ⟨(et).toArray⟩), .int .i64 er, (Value.string ⟨(eu).toArray⟩)] ∧ Blk w' (w.heap.size + 2) 51 #[(Value.string ⟨((u).scheme).toArray⟩), (Value.string ⟨(((u).host).name).toArray⟩), (Value.bool ((u).host).v4), (Value.int .u32 (((u).host).addr : Int)), (Value.int .i64 (u).port), (Value.string ⟨((u).path).toArray⟩), (Value.bool (u).hasQuery), (Value.string ⟨((u).query).toArray⟩), (Value.string ⟨((u).rest).toArray⟩), .slice A3 hl.length d3] ∧ Blk w' (w.heap.size + 3) 40 #[.bool false, .bool false, .bool false])
    case first =>
      go_wp2_with (first | (go_at_call 24; refine ( h1.out _ (by (repeat' first | (with_reducible exact Below.refl _ _) | (with_reducible refine Below.setCell ?_ (by first | omega | (simp; done) | (simp; omega)) _) | (with_reducible refine Below.alloc ?_ (by first | omega | (simp; done) | (simp; omega)) _) | refine below_drewN ?_ _ | refine Below.drew ?_ | (refine below_thru (by assumption) ?_ (by first | omega | (simp; done) | (simp; omega))) | exact Below.refl _ _))).mono ?_; rintro e w1 ⟨rfl, hb⟩; obtain ⟨hc, hfz⟩ := bcell hb; have hz := hb.size; (try simp at hz); (try have hz0 : w.heap.size < w1.heap.size := by omega); (try have hz1 : w.heap.size + 1 < w1.heap.size := by omega); (try have hz2 : w.heap.size + 2 < w1.heap.size := by omega); (try have hz3 : w.heap.size + 3 < w1.heap.size := by omega); (try have hcA := fun o => hc w.heap.size o (by first | omega | (simp; omega))); (try have hcB := fun o => hc (w.heap.size + 1) o (by first | omega | (simp; omega)))))
      go_meet
      case rel => exact ⟨rfl, by (repeat' first | (with_reducible exact Below.refl _ _) | (with_reducible refine Below.setCell ?_ (by first | omega | (simp; done) | (simp; omega)) _) | (with_reducible refine Below.alloc ?_ (by first | omega | (simp; done) | (simp; omega)) _) | refine below_drewN ?_ _ | refine Below.drew ?_ | (refine below_thru (by assumption) ?_ (by first | omega | (simp; done) | (simp; omega))) | exact Below.refl _ _), by (repeat' first | (with_reducible assumption) | (with_reducible exact Blk.new _ _ _) | (with_reducible refine Blk.drew_ ?_) | (with_reducible refine Blk.alloc ?_ _) | (refine Blk.below ?_ (by assumption) (by first | omega | (simp; done) | (simp; omega)))), by (repeat' first | (with_reducible assumption) | (with_reducible exact Blk.new _ _ _) | (with_reducible refine Blk.drew_ ?_) | (with_reducible refine Blk.alloc ?_ _) | (refine Blk.below ?_ (by assumption) (by first | omega | (simp; done) | (simp; omega)))), by (repeat' first | (with_reducible assumption) | (with_reducible exact Blk.new _ _ _) | (with_reducible refine Blk.drew_ ?_) | (with_reducible refine Blk.alloc ?_ _) | (refine Blk.below ?_ (by assumption) (by first | omega | (simp; done) | (simp; omega)))), by (repeat' first | (with_reducible assumption) | (with_reducible exact Blk.new _ _ _) | (with_reducible refine Blk.drew_ ?_) | (with_reducible refine Blk.alloc ?_ _) | (refine Blk.below ?_ (by assumption) (by first | omega | (simp; done) | (simp; omega))))⟩
    case rest =>
    clear hw0 hwz hOl hOc hOf hEl hEc hEf hHl hHc hHf hGl hGc hGf hBO hBE hBH hBG
    obtain ⟨rfl, hw0, hBO, hBE, hBH, hBG⟩ := hcut
    have hwz := hw0.size
    have hOl := hBO.lt
    have hOc := hBO.cell
    have hOf := hBO.frozen
    have hEl := hBE.lt
    have hEc := hBE.cell
    have hEf := hBE.frozen
    have hHl := hBH.lt
    have hHc := hBH.cell
    have hHf := hBH.frozen
    have hGl := hBG.lt
    have hGc := hBG.cell
    have hGf := hBG.frozen
    go_wp2_with (first | (go_at_call 24; refine ( h2.out _ (by (repeat' first | (with_reducible exact Below.refl _ _) | (with_reducible refine Below.setCell ?_ (by first | omega | (simp; done) | (simp; omega)) _) | (with_reducible refine Below.alloc ?_ (by first | omega | (simp; done) | (simp; omega)) _) | refine below_drewN ?_ _ | refine Below.drew ?_ | (refine below_thru (by assumption) ?_ (by first | omega | (simp; done) | (simp; omega))) | exact Below.refl _ _))).mono ?_; rintro e w1 ⟨rfl, hb⟩; obtain ⟨hc, hfz⟩ := bcell hb; have hz := hb.size; (try simp at hz); (try have hz0 : w.heap.size < w1.heap.size := by omega); (try have hz1 : w.heap.size + 1 < w1.heap.size := by omega); (try have hz2 : w.heap.size + 2 < w1.heap.size := by omega); (try have hz3 : w.heap.size + 3 < w1.heap.size := by omega); (try have hcA := fun o => hc w.heap.size o (by first | omega | (simp; omega))); (try have hcB := fun o => hc (w.heap.size + 1) o (by first | omega | (simp; omega)))))
    have hG1 : Blk w1 (w.heap.size + 1 + 1 + 1) 40 #[.bool false, .bool false, .bool false] := by (repeat' first | (with_reducible assumption) | (with_reducible exact Blk.new _ _ _) | (with_reducible refine Blk.drew_ ?_) | (with_reducible refine Blk.alloc ?_ _) | (refine Blk.below ?_ (by assumption) (by first | omega | (simp; done) | (simp; omega))))
    have hG2 := ((hG1.set_ 0 (.bool g1)).set_ 1 (.bool !g1)).set_ 2 (.bool !g2)
    have k0 := hG2.cell 0
    have k1 := hG2.cell 1
    have k2 := hG2.cell 2
    refine bodyPost_ret (v := .agg #[.bool g1, .bool !g1, .bool !g2]) (by simp only [results, Tryz.results26]; go_simp) rfl ⟨rfl, ?_⟩
    (repeat' first | (with_reducible exact Below.refl _ _) | (with_reducible refine Below.setCell ?_ (by first | omega | (simp; done) | (simp; omega)) _) | (with_reducible refine Below.alloc ?_ (by first | omega | (simp; done) | (simp; omega)) _) | refine below_drewN ?_ _ | refine Below.drew ?_ | (refine below_thru (by assumption) ?_ (by first | omega | (simp; done) | (simp; omega))) | exact Below.refl _ _)
end Go.Proofs.YtkfoogmncokjnaaGreatDoor
