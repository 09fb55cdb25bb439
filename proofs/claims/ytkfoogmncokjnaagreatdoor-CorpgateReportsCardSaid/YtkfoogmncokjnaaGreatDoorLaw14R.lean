/- glacislaw14.CorpgateReports. -/
import Derived.Test.YtkfoogmncokjnaaGreatDoorPlain14b
namespace Go.Proofs.YtkfoogmncokjnaaGreatDoor
open Go.RowKit
attribute [local irreducible] Calls
set_option maxRecDepth 100000 in
set_option maxHeartbeats 4000000 in
theorem law14_reports (o : Gl.Origin) (ev er : Int) (et eu : List UInt8) (rep : Int) (nav : Bool) (u : Gl.URL) (vh : Value) (hl : List Gl.Head) (creds : Bool) (v : Value) (S : List (List UInt8)) (w : World) (hE : Env w) (hH : Heads w vh hl) (hu : u.host.addr < 4294967296) (hv : Strs w w.heap.size v S) (ho : o.host.addr < 4294967296) : Calls Tryz.prog 10 #[(Value.agg #[(Value.bool (o).opaq), (Value.int .i64 (o).id), (Value.string ⟨((o).scheme).toArray⟩), (Value.string ⟨(((o).host).name).toArray⟩), (Value.bool ((o).host).v4), (Value.int .u32 (((o).host).addr : Int)), (Value.int .i64 (o).port)]), .agg #[.int .i64 ev, (Value.string ⟨(et).toArray⟩), .int .i64 er, (Value.string ⟨(eu).toArray⟩)], .int .i64 rep, .bool nav, .agg #[(Value.string ⟨((u).scheme).toArray⟩), (Value.string ⟨(((u).host).name).toArray⟩), (Value.bool ((u).host).v4), (Value.int .u32 (((u).host).addr : Int)), (Value.int .i64 (u).port), (Value.string ⟨((u).path).toArray⟩), (Value.bool (u).hasQuery), (Value.string ⟨((u).query).toArray⟩), (Value.string ⟨((u).rest).toArray⟩), vh], .bool creds, v] w (Ret w (.bool true)) := by
  have hup := fun W (hW : Below w.heap.size w W) => awake14 W (hE.below hW)
  replace hup := Lib.hid hup
  have hsm := fun W (hW : Below w.heap.size w W) => law14_small o u vh hl v S W (hH.below hW) ((hv.keep hW).more hW.size)
  have hok := small14_out (o := o) (vh := vh) (hl := hl) ho hu hv
  have h1 := fun (hk : OFits o ∧ HopFit u hl ∧ Sufs w v S) W (hW : Below w.heap.size w W) => corp_check o ev er et eu nav creds u vh hl v S W (hE.below hW) hk.1 (hH.below hW) hk.2.1 (hk.2.2.below hW)
  have h2 := fun (hk : OFits o ∧ HopFit u hl ∧ Sufs w v S) W (hW : Below w.heap.size w W) => corp_check o ev rep et eu nav creds u vh hl v S W (hE.below hW) hk.1 (hH.below hW) hk.2.1 (hk.2.2.below hW)
  have h3 := fun (hk : OFits o ∧ HopFit u hl ∧ Sufs w v S) W (hW : Below w.heap.size w W) => corp_check o ev 0 et eu nav creds u vh hl v S W (hE.below hW) hk.1 (hH.below hW) hk.2.1 (hk.2.2.below hW)
  rw [gateV14] at h1 h2 h3
  rw [show (Gl.gate o u hl 0 creds nav S && !Gl.gate o u hl 0 creds nav S) = false by simp] at h3
  obtain ⟨a3, ha3⟩ : ∃ a3, (Gl.gate o u hl 0 creds nav S && !Gl.gate o u hl er creds nav S) = a3 := ⟨_, rfl⟩
  generalize (Gl.gate o u hl 0 creds nav S && !Gl.gate o u hl rep creds nav S) = b3 at *
  obtain ⟨a1, ha1⟩ : ∃ a1, (Gl.gate o u hl 0 creds nav S && Gl.gate o u hl ev creds nav S) = a1 := ⟨_, rfl⟩
  obtain ⟨a2, ha2⟩ : ∃ a2, (Gl.gate o u hl 0 creds nav S && !Gl.gate o u hl ev creds nav S) = a2 := ⟨_, rfl⟩
  have hcases : (a1 = true ∧ a2 = false) ∨ (a1 = false ∧ a2 = true) ∨ (a1 = false ∧ a2 = false) := by
    rw [← ha1, ← ha2]
    cases Gl.gate o u hl 0 creds nav S <;> cases Gl.gate o u hl ev creds nav S <;> simp
  have hA3 : a1 = false → a2 = false → a3 = false := by
    rw [← ha1, ← ha2, ← ha3]
    cases Gl.gate o u hl 0 creds nav S <;> cases Gl.gate o u hl ev creds nav S <;> simp
  rw [ha1, ha2] at h1 h2 h3
  rw [ha3] at h1
  clear ha1 ha2 ha3
  generalize (smallHops o [⟨u, vh, hl⟩] && smallS S) = q at *
  obtain ⟨A3, d3, rfl⟩ := hH.form
  obtain ⟨vA, vc, rfl, _⟩ := id hv
  clear hH hv
  replace hsm := Lib.hid hsm
  replace hok := Lib.hid hok
  replace hcases := Lib.hid hcases
  replace h1 := Lib.hid h1
  replace h2 := Lib.hid h2
  replace h3 := Lib.hid h3
  replace hA3 := Lib.hid hA3
  cases q
  · go_enter Tryz.func10, Tryz.ntmps10
    go_wp2_with (first | (go_at_call 21; refine ( hup.out _ (by (repeat' first | (with_reducible exact Below.refl _ _) | (with_reducible refine Below.setCell ?_ (by first | omega | (simp; done) | (simp; omega)) _) | (with_reducible refine Below.alloc ?_ (by first | omega | (simp; done) | (simp; omega)) _) | refine below_drewN ?_ _ | refine Below.drew ?_ | (refine below_thru (by assumption) ?_ (by first | omega | (simp; done) | (simp; omega))) | exact Below.refl _ _))).mono ?_; rintro e w1 ⟨rfl, hb⟩; obtain ⟨hc, hfz⟩ := bcell hb; have hz := hb.size; (try simp at hz); (try have hz0 : w.heap.size < w1.heap.size := by omega); (try have hz1 : w.heap.size + 1 < w1.heap.size := by omega); (try have hz2 : w.heap.size + 2 < w1.heap.size := by omega); (try have hz3 : w.heap.size + 3 < w1.heap.size := by omega); (try have hcA := fun o => hc w.heap.size o (by first | omega | (simp; omega))); (try have hcB := fun o => hc (w.heap.size + 1) o (by first | omega | (simp; omega))); (try have hcGgA := fun o => hc gA o (by first | omega | (simp; omega))); (try have hfGgA := fun o => hfz gA o (by first | omega | (simp; omega))); (try have hzGgA : gA < w1.heap.size := by omega); (try have hcGgB := fun o => hc gB o (by first | omega | (simp; omega))); (try have hfGgB := fun o => hfz gB o (by first | omega | (simp; omega))); (try have hzGgB : gB < w1.heap.size := by omega)) | (go_at_call 22; refine ( hsm.out _ (by (repeat' first | (with_reducible exact Below.refl _ _) | (with_reducible refine Below.setCell ?_ (by first | omega | (simp; done) | (simp; omega)) _) | (with_reducible refine Below.alloc ?_ (by first | omega | (simp; done) | (simp; omega)) _) | refine below_drewN ?_ _ | refine Below.drew ?_ | (refine below_thru (by assumption) ?_ (by first | omega | (simp; done) | (simp; omega))) | exact Below.refl _ _))).mono ?_; rintro e w1 ⟨rfl, hb⟩; obtain ⟨hc, hfz⟩ := bcell hb; have hz := hb.size; (try simp at hz); (try have hz0 : w.heap.size < w1.heap.size := by omega); (try have hz1 : w.heap.size + 1 < w1.heap.size := by omega); (try have hz2 : w.heap.size + 2 < w1.heap.size := by omega); (try have hz3 : w.heap.size + 3 < w1.heap.size := by omega); (try have hcA := fun o => hc w.heap.size o (by first | omega | (simp; omega))); (try have hcB := fun o => hc (w.heap.size + 1) o (by first | omega | (simp; omega))); (try have hcGgA := fun o => hc gA o (by first | omega | (simp; omega))); (try have hfGgA := fun o => hfz gA o (by first | omega | (simp; omega))); (try have hzGgA : gA < w1.heap.size := by omega); (try have hcGgB := fun o => hc gB o (by first | omega | (simp; omega))); (try have hfGgB := fun o => hfz gB o (by first | omega | (simp; omega))); (try have hzGgB : gB < w1.heap.size := by omega); (try have hcGgC := fun o => hc gC o (by first | omega | (simp; omega))); (try have hfGgC := fun o => hfz gC o (by first | omega | (simp; omega))); (try have hzGgC : gC < w1.heap.size := by omega); (try have hcGgD := fun o => hc gD o (by first | omega | (simp; omega))); (try have hfGgD := fun o => hfz gD o (by first | omega | (simp; omega))); (try have hzGgD : gD < w1.heap.size := by omega)))
    go_ret
    exact ⟨rfl, by (repeat' first | (with_reducible exact Below.refl _ _) | (with_reducible refine Below.setCell ?_ (by first | omega | (simp; done) | (simp; omega)) _) | (with_reducible refine Below.alloc ?_ (by first | omega | (simp; done) | (simp; omega)) _) | refine below_drewN ?_ _ | refine Below.drew ?_ | (refine below_thru (by assumption) ?_ (by first | omega | (simp; done) | (simp; omega))) | exact Below.refl _ _)⟩
  have hk := hok.out rfl
  clear hok
  replace h1 := Lib.hid (h1.out hk)
  replace h2 := Lib.hid (h2.out hk)
  replace h3 := Lib.hid (h3.out hk)
  clear hk
  go_enter Tryz.func10, Tryz.ntmps10
  go_upto_region 1 with fail
  generalize hW0 : (((w.alloc (Obj.cells #[(Value.bool (o).opaq), (Value.int .i64 (o).id), (Value.string ⟨((o).scheme).toArray⟩), (Value.string ⟨(((o).host).name).toArray⟩), (Value.bool ((o).host).v4), (Value.int .u32 (((o).host).addr : Int)), (Value.int .i64 (o).port)] 31)).alloc (Obj.cells #[.int .i64 ev, (Value.string ⟨(et).toArray⟩), .int .i64 er, (Value.string ⟨(eu).toArray⟩)] 24)).alloc (Obj.cells #[(Value.string ⟨((u).scheme).toArray⟩), (Value.string ⟨(((u).host).name).toArray⟩), (Value.bool ((u).host).v4), (Value.int .u32 (((u).host).addr : Int)), (Value.int .i64 (u).port), (Value.string ⟨((u).path).toArray⟩), (Value.bool (u).hasQuery), (Value.string ⟨((u).query).toArray⟩), (Value.string ⟨((u).rest).toArray⟩), .slice A3 hl.length d3] 51)) = W0
  have hw0 : Below w.heap.size w W0 := by rw [← hW0]; (repeat' first | (with_reducible exact Below.refl _ _) | (with_reducible refine Below.setCell ?_ (by first | omega | (simp; done) | (simp; omega)) _) | (with_reducible refine Below.alloc ?_ (by first | omega | (simp; done) | (simp; omega)) _) | refine below_drewN ?_ _ | refine Below.drew ?_ | (refine below_thru (by assumption) ?_ (by first | omega | (simp; done) | (simp; omega))) | exact Below.refl _ _)
  have hBO : Blk W0 (w.heap.size) 31 #[(Value.bool (o).opaq), (Value.int .i64 (o).id), (Value.string ⟨((o).scheme).toArray⟩), (Value.string ⟨(((o).host).name).toArray⟩), (Value.bool ((o).host).v4), (Value.int .u32 (((o).host).addr : Int)), (Value.int .i64 (o).port)] := by rw [← hW0]; exact (Blk.alloc (Blk.alloc (Blk.new _ _ _) _) _)
  have hBE : Blk W0 (w.heap.size + 1) 24 #[.int .i64 ev, (Value.string ⟨(et).toArray⟩), .int .i64 er, (Value.string ⟨(eu).toArray⟩)] := by rw [← hW0]; exact (Blk.alloc (by have := Blk.new (w.alloc (Obj.cells #[(Value.bool (o).opaq), (Value.int .i64 (o).id), (Value.string ⟨((o).scheme).toArray⟩), (Value.string ⟨(((o).host).name).toArray⟩), (Value.bool ((o).host).v4), (Value.int .u32 (((o).host).addr : Int)), (Value.int .i64 (o).port)] 31)) 24 #[.int .i64 ev, (Value.string ⟨(et).toArray⟩), .int .i64 er, (Value.string ⟨(eu).toArray⟩)]; simpa [World.size_alloc] using this) _)
  have hBH : Blk W0 (w.heap.size + 2) 51 #[(Value.string ⟨((u).scheme).toArray⟩), (Value.string ⟨(((u).host).name).toArray⟩), (Value.bool ((u).host).v4), (Value.int .u32 (((u).host).addr : Int)), (Value.int .i64 (u).port), (Value.string ⟨((u).path).toArray⟩), (Value.bool (u).hasQuery), (Value.string ⟨((u).query).toArray⟩), (Value.string ⟨((u).rest).toArray⟩), .slice A3 hl.length d3] := by rw [← hW0]; exact (by have := Blk.new ((w.alloc (Obj.cells #[(Value.bool (o).opaq), (Value.int .i64 (o).id), (Value.string ⟨((o).scheme).toArray⟩), (Value.string ⟨(((o).host).name).toArray⟩), (Value.bool ((o).host).v4), (Value.int .u32 (((o).host).addr : Int)), (Value.int .i64 (o).port)] 31)).alloc (Obj.cells #[.int .i64 ev, (Value.string ⟨(et).toArray⟩), .int .i64 er, (Value.string ⟨(eu).toArray⟩)] 24)) 51 #[(Value.string ⟨((u).scheme).toArray⟩), (Value.string ⟨(((u).host).name).toArray⟩), (Value.bool ((u).host).v4), (Value.int .u32 (((u).host).addr : Int)), (Value.int .i64 (u).port), (Value.string ⟨((u).path).toArray⟩), (Value.bool (u).hasQuery), (Value.string ⟨((u).query).toArray⟩), (Value.string ⟨((u).rest).toArray⟩), .slice A3 hl.length d3]; simpa [World.size_alloc] using this)
  clear hW0
  have hwz := hw0.size
  have hOl := hBO.lt
  have hOc := hBO.cell
  have hOf := hBO.frozen
  have hEl := hBE.lt
  have hEc := hBE.cell
  have hEf := hBE.frozen
  have hHl := hBH.lt
  have hHc := hBH.cell
  have hHf := hBH.frozen
  go_upto_region 1 with fail
  go_cut [15] from 21 (fun x15 w' => x15 = .bool true ∧ Below w.heap.size w w' ∧ Blk w' (w.heap.size) 31 #[(Value.bool (o).opaq), (Value.int .i64 (o).id), (Value.string ⟨((o).scheme).toArray⟩), (Value.string ⟨(((o).host).name).toArray⟩), (Value.bool ((o).host).v4), (Value.int .u32 (((o).host).addr : Int)), (Value.int .i64 (o).port)] ∧ Blk w' (w.heap.size + 1) 24 #[.int .i64 ev, (Value.string ⟨(et).toArray⟩), .int .i64 er, (Value.string ⟨(eu).toArray⟩)] ∧ Blk w' (w.heap.size + 2) 51 #[(Value.string ⟨((u).scheme).toArray⟩), (Value.string ⟨(((u).host).name).toArray⟩), (Value.bool ((u).host).v4), (Value.int .u32 (((u).host).addr : Int)), (Value.int .i64 (u).port), (Value.string ⟨((u).path).toArray⟩), (Value.bool (u).hasQuery), (Value.string ⟨((u).query).toArray⟩), (Value.string ⟨((u).rest).toArray⟩), .slice A3 hl.length d3])
  case first =>
    go_wp2_with (go_at_call 21; refine ( hup.out _ (by (repeat' first | (with_reducible exact Below.refl _ _) | (with_reducible refine Below.setCell ?_ (by first | omega | (simp; done) | (simp; omega)) _) | (with_reducible refine Below.alloc ?_ (by first | omega | (simp; done) | (simp; omega)) _) | refine below_drewN ?_ _ | refine Below.drew ?_ | (refine below_thru (by assumption) ?_ (by first | omega | (simp; done) | (simp; omega))) | exact Below.refl _ _))).mono ?_; rintro e w1 ⟨rfl, hb⟩; obtain ⟨hc, hfz⟩ := bcell hb; have hz := hb.size; (try simp at hz); (try have hz0 : w.heap.size < w1.heap.size := by omega); (try have hz1 : w.heap.size + 1 < w1.heap.size := by omega); (try have hz2 : w.heap.size + 2 < w1.heap.size := by omega); (try have hz3 : w.heap.size + 3 < w1.heap.size := by omega); (try have hcA := fun o => hc w.heap.size o (by first | omega | (simp; omega))); (try have hcB := fun o => hc (w.heap.size + 1) o (by first | omega | (simp; omega))); (try have hcGgA := fun o => hc gA o (by first | omega | (simp; omega))); (try have hfGgA := fun o => hfz gA o (by first | omega | (simp; omega))); (try have hzGgA : gA < w1.heap.size := by omega); (try have hcGgB := fun o => hc gB o (by first | omega | (simp; omega))); (try have hfGgB := fun o => hfz gB o (by first | omega | (simp; omega))); (try have hzGgB : gB < w1.heap.size := by omega))
    go_meet
    case rel =>
      exact ⟨rfl, by (repeat' first | (with_reducible exact Below.refl _ _) | (with_reducible refine Below.setCell ?_ (by first | omega | (simp; done) | (simp; omega)) _) | (with_reducible refine Below.alloc ?_ (by first | omega | (simp; done) | (simp; omega)) _) | refine below_drewN ?_ _ | refine Below.drew ?_ | (refine below_thru (by assumption) ?_ (by first | omega | (simp; done) | (simp; omega))) | exact Below.refl _ _), by (repeat' first | (with_reducible assumption) | (with_reducible exact Blk.new _ _ _) | (with_reducible refine Blk.drew_ ?_) | (with_reducible refine Blk.alloc ?_ _) | (refine Blk.below ?_ (by assumption) (by first | omega | (simp; done) | (simp; omega)))), by (repeat' first | (with_reducible assumption) | (with_reducible exact Blk.new _ _ _) | (with_reducible refine Blk.drew_ ?_) | (with_reducible refine Blk.alloc ?_ _) | (refine Blk.below ?_ (by assumption) (by first | omega | (simp; done) | (simp; omega)))), by (repeat' first | (with_reducible assumption) | (with_reducible exact Blk.new _ _ _) | (with_reducible refine Blk.drew_ ?_) | (with_reducible refine Blk.alloc ?_ _) | (refine Blk.below ?_ (by assumption) (by first | omega | (simp; done) | (simp; omega))))⟩
  case rest =>
  clear hw0 hwz hOl hOc hOf hEl hEc hEf hHl hHc hHf hBO hBE hBH 
  obtain ⟨rfl, hw0, hBO, hBE, hBH⟩ := hcut
  have hwz := hw0.size
  have hOl := hBO.lt
  have hOc := hBO.cell
  have hOf := hBO.frozen
  have hEl := hBE.lt
  have hEc := hBE.cell
  have hEf := hBE.frozen
  have hHl := hBH.lt
  have hHc := hBH.cell
  have hHf := hBH.frozen
  go_upto_region 2 with fail
  go_cut [16] from 21 (fun x16 w' => x16 = .bool true ∧ Below w.heap.size w w' ∧ Blk w' (w.heap.size) 31 #[(Value.bool (o).opaq), (Value.int .i64 (o).id), (Value.string ⟨((o).scheme).toArray⟩), (Value.string ⟨(((o).host).name).toArray⟩), (Value.bool ((o).host).v4), (Value.int .u32 (((o).host).addr : Int)), (Value.int .i64 (o).port)] ∧ Blk w' (w.heap.size + 1) 24 #[.int .i64 ev, (Value.string ⟨(et).toArray⟩), .int .i64 er, (Value.string ⟨(eu).toArray⟩)] ∧ Blk w' (w.heap.size + 2) 51 #[(Value.string ⟨((u).scheme).toArray⟩), (Value.string ⟨(((u).host).name).toArray⟩), (Value.bool ((u).host).v4), (Value.int .u32 (((u).host).addr : Int)), (Value.int .i64 (u).port), (Value.string ⟨((u).path).toArray⟩), (Value.bool (u).hasQuery), (Value.string ⟨((u).query).toArray⟩), (Value.string ⟨((u).rest).toArray⟩), .slice A3 hl.length d3])
  case first =>
    go_wp2_with (go_at_call 22; refine ( hsm.out _ (by (repeat' first | (with_reducible exact Below.refl _ _) | (with_reducible refine Below.setCell ?_ (by first | omega | (simp; done) | (simp; omega)) _) | (with_reducible refine Below.alloc ?_ (by first | omega | (simp; done) | (simp; omega)) _) | refine below_drewN ?_ _ | refine Below.drew ?_ | (refine below_thru (by assumption) ?_ (by first | omega | (simp; done) | (simp; omega))) | exact Below.refl _ _))).mono ?_; rintro e w1 ⟨rfl, hb⟩; obtain ⟨hc, hfz⟩ := bcell hb; have hz := hb.size; (try simp at hz); (try have hz0 : w.heap.size < w1.heap.size := by omega); (try have hz1 : w.heap.size + 1 < w1.heap.size := by omega); (try have hz2 : w.heap.size + 2 < w1.heap.size := by omega); (try have hz3 : w.heap.size + 3 < w1.heap.size := by omega); (try have hcA := fun o => hc w.heap.size o (by first | omega | (simp; omega))); (try have hcB := fun o => hc (w.heap.size + 1) o (by first | omega | (simp; omega))); (try have hcGgA := fun o => hc gA o (by first | omega | (simp; omega))); (try have hfGgA := fun o => hfz gA o (by first | omega | (simp; omega))); (try have hzGgA : gA < w1.heap.size := by omega); (try have hcGgB := fun o => hc gB o (by first | omega | (simp; omega))); (try have hfGgB := fun o => hfz gB o (by first | omega | (simp; omega))); (try have hzGgB : gB < w1.heap.size := by omega); (try have hcGgC := fun o => hc gC o (by first | omega | (simp; omega))); (try have hfGgC := fun o => hfz gC o (by first | omega | (simp; omega))); (try have hzGgC : gC < w1.heap.size := by omega); (try have hcGgD := fun o => hc gD o (by first | omega | (simp; omega))); (try have hfGgD := fun o => hfz gD o (by first | omega | (simp; omega))); (try have hzGgD : gD < w1.heap.size := by omega))
    go_meet
    case rel =>
      exact ⟨rfl, by (repeat' first | (with_reducible exact Below.refl _ _) | (with_reducible refine Below.setCell ?_ (by first | omega | (simp; done) | (simp; omega)) _) | (with_reducible refine Below.alloc ?_ (by first | omega | (simp; done) | (simp; omega)) _) | refine below_drewN ?_ _ | refine Below.drew ?_ | (refine below_thru (by assumption) ?_ (by first | omega | (simp; done) | (simp; omega))) | exact Below.refl _ _), by (repeat' first | (with_reducible assumption) | (with_reducible exact Blk.new _ _ _) | (with_reducible refine Blk.drew_ ?_) | (with_reducible refine Blk.alloc ?_ _) | (refine Blk.below ?_ (by assumption) (by first | omega | (simp; done) | (simp; omega)))), by (repeat' first | (with_reducible assumption) | (with_reducible exact Blk.new _ _ _) | (with_reducible refine Blk.drew_ ?_) | (with_reducible refine Blk.alloc ?_ _) | (refine Blk.below ?_ (by assumption) (by first | omega | (simp; done) | (simp; omega)))), by (repeat' first | (with_reducible assumption) | (with_reducible exact Blk.new _ _ _) | (with_reducible refine Blk.drew_ ?_) | (with_reducible refine Blk.alloc ?_ _) | (refine Blk.below ?_ (by assumption) (by first | omega | (simp; done) | (simp; omega))))⟩
  case rest =>
  clear hw0 hwz hOl hOc hOf hEl hEc hEf hHl hHc hHf hBO hBE hBH 
  obtain ⟨rfl, hw0, hBO, hBE, hBH⟩ := hcut
  have hwz := hw0.size
  have hOl := hBO.lt
  have hOc := hBO.cell
  have hOf := hBO.frozen
  have hEl := hBE.lt
  have hEc := hBE.cell
  have hEf := hBE.frozen
  have hHl := hBH.lt
  have hHc := hBH.cell
  have hHf := hBH.frozen
  go_upto_region 5 with fail
  go_cut [17] from 21 (fun x17 w' => ∃ gA, x17 = .pointer (some ⟨gA, 0, none⟩) ∧ Below w.heap.size w w' ∧ Blk w' (w.heap.size) 31 #[(Value.bool (o).opaq), (Value.int .i64 (o).id), (Value.string ⟨((o).scheme).toArray⟩), (Value.string ⟨(((o).host).name).toArray⟩), (Value.bool ((o).host).v4), (Value.int .u32 (((o).host).addr : Int)), (Value.int .i64 (o).port)] ∧ Blk w' (w.heap.size + 1) 24 #[.int .i64 ev, (Value.string ⟨(et).toArray⟩), .int .i64 er, (Value.string ⟨(eu).toArray⟩)] ∧ Blk w' (w.heap.size + 2) 51 #[(Value.string ⟨((u).scheme).toArray⟩), (Value.string ⟨(((u).host).name).toArray⟩), (Value.bool ((u).host).v4), (Value.int .u32 (((u).host).addr : Int)), (Value.int .i64 (u).port), (Value.string ⟨((u).path).toArray⟩), (Value.bool (u).hasQuery), (Value.string ⟨((u).query).toArray⟩), (Value.string ⟨((u).rest).toArray⟩), .slice A3 hl.length d3] ∧ Blk w' (gA) 40 #[.bool a1, .bool a2, .bool a3])
  case first =>
    go_wp2_with (go_at_call 25; refine ( h1.out _ (by (repeat' first | (with_reducible exact Below.refl _ _) | (with_reducible refine Below.setCell ?_ (by first | omega | (simp; done) | (simp; omega)) _) | (with_reducible refine Below.alloc ?_ (by first | omega | (simp; done) | (simp; omega)) _) | refine below_drewN ?_ _ | refine Below.drew ?_ | (refine below_thru (by assumption) ?_ (by first | omega | (simp; done) | (simp; omega))) | exact Below.refl _ _))).mono ?_; rintro e w1 ⟨rfl, hb⟩; obtain ⟨hc, hfz⟩ := bcell hb; have hz := hb.size; (try simp at hz); (try have hz0 : w.heap.size < w1.heap.size := by omega); (try have hz1 : w.heap.size + 1 < w1.heap.size := by omega); (try have hz2 : w.heap.size + 2 < w1.heap.size := by omega); (try have hz3 : w.heap.size + 3 < w1.heap.size := by omega); (try have hcA := fun o => hc w.heap.size o (by first | omega | (simp; omega))); (try have hcB := fun o => hc (w.heap.size + 1) o (by first | omega | (simp; omega))); (try have hcGgA := fun o => hc gA o (by first | omega | (simp; omega))); (try have hfGgA := fun o => hfz gA o (by first | omega | (simp; omega))); (try have hzGgA : gA < w1.heap.size := by omega); (try have hcGgB := fun o => hc gB o (by first | omega | (simp; omega))); (try have hfGgB := fun o => hfz gB o (by first | omega | (simp; omega))); (try have hzGgB : gB < w1.heap.size := by omega); (try have hcGgC := fun o => hc gC o (by first | omega | (simp; omega))); (try have hfGgC := fun o => hfz gC o (by first | omega | (simp; omega))); (try have hzGgC : gC < w1.heap.size := by omega); (try have hcGgD := fun o => hc gD o (by first | omega | (simp; omega))); (try have hfGgD := fun o => hfz gD o (by first | omega | (simp; omega))); (try have hzGgD : gD < w1.heap.size := by omega))
    go_meet
    case rel =>
      exact ⟨_, rfl, by (repeat' first | (with_reducible exact Below.refl _ _) | (with_reducible refine Below.setCell ?_ (by first | omega | (simp; done) | (simp; omega)) _) | (with_reducible refine Below.alloc ?_ (by first | omega | (simp; done) | (simp; omega)) _) | refine below_drewN ?_ _ | refine Below.drew ?_ | (refine below_thru (by assumption) ?_ (by first | omega | (simp; done) | (simp; omega))) | exact Below.refl _ _), by (repeat' first | (with_reducible assumption) | (with_reducible exact Blk.new _ _ _) | (with_reducible refine Blk.drew_ ?_) | (with_reducible refine Blk.alloc ?_ _) | (refine Blk.below ?_ (by assumption) (by first | omega | (simp; done) | (simp; omega)))), by (repeat' first | (with_reducible assumption) | (with_reducible exact Blk.new _ _ _) | (with_reducible refine Blk.drew_ ?_) | (with_reducible refine Blk.alloc ?_ _) | (refine Blk.below ?_ (by assumption) (by first | omega | (simp; done) | (simp; omega)))), by (repeat' first | (with_reducible assumption) | (with_reducible exact Blk.new _ _ _) | (with_reducible refine Blk.drew_ ?_) | (with_reducible refine Blk.alloc ?_ _) | (refine Blk.below ?_ (by assumption) (by first | omega | (simp; done) | (simp; omega)))), by (repeat' first | (with_reducible assumption) | (with_reducible exact Blk.new _ _ _) | (with_reducible refine Blk.drew_ ?_) | (with_reducible refine Blk.alloc ?_ _) | (refine Blk.below ?_ (by assumption) (by first | omega | (simp; done) | (simp; omega))))⟩
  case rest =>
  clear hw0 hwz hOl hOc hOf hEl hEc hEf hHl hHc hHf hBO hBE hBH 
  obtain ⟨gA, rfl, hw0, hBO, hBE, hBH, hBA⟩ := hcut
  have hwz := hw0.size
  have hOl := hBO.lt
  have hOc := hBO.cell
  have hOf := hBO.frozen
  have hEl := hBE.lt
  have hEc := hBE.cell
  have hEf := hBE.frozen
  have hHl := hBH.lt
  have hHc := hBH.cell
  have hHf := hBH.frozen
  have hAl := hBA.lt
  have hAc := hBA.cell
  have hAf := hBA.frozen
  go_upto_region 6 with fail
  go_cut [18] from 21 (fun x18 w' => ∃ gD, x18 = .pointer (some ⟨gD, 0, none⟩) ∧ Below w.heap.size w w' ∧ Blk w' (w.heap.size) 31 #[(Value.bool (o).opaq), (Value.int .i64 (o).id), (Value.string ⟨((o).scheme).toArray⟩), (Value.string ⟨(((o).host).name).toArray⟩), (Value.bool ((o).host).v4), (Value.int .u32 (((o).host).addr : Int)), (Value.int .i64 (o).port)] ∧ Blk w' (w.heap.size + 1) 24 #[.int .i64 ev, (Value.string ⟨(et).toArray⟩), .int .i64 er, (Value.string ⟨(eu).toArray⟩)] ∧ Blk w' (w.heap.size + 2) 51 #[(Value.string ⟨((u).scheme).toArray⟩), (Value.string ⟨(((u).host).name).toArray⟩), (Value.bool ((u).host).v4), (Value.int .u32 (((u).host).addr : Int)), (Value.int .i64 (u).port), (Value.string ⟨((u).path).toArray⟩), (Value.bool (u).hasQuery), (Value.string ⟨((u).query).toArray⟩), (Value.string ⟨((u).rest).toArray⟩), .slice A3 hl.length d3] ∧ Blk w' (gA) 40 #[.bool a1, .bool a2, .bool a3] ∧ Blk w' (gD) 24 #[.int .i64 ev, (Value.string ⟨(et).toArray⟩), .int .i64 er, (Value.string ⟨(eu).toArray⟩)] ∧ w.heap.size + 2 < gD ∧ gA ≠ gD)
  case first =>
    go_wp2_with fail
    go_meet
    case rel =>
      exact ⟨_, rfl, by (repeat' first | (with_reducible exact Below.refl _ _) | (with_reducible refine Below.setCell ?_ (by first | omega | (simp; done) | (simp; omega)) _) | (with_reducible refine Below.alloc ?_ (by first | omega | (simp; done) | (simp; omega)) _) | refine below_drewN ?_ _ | refine Below.drew ?_ | (refine below_thru (by assumption) ?_ (by first | omega | (simp; done) | (simp; omega))) | exact Below.refl _ _), by (repeat' first | (with_reducible assumption) | (with_reducible exact Blk.new _ _ _) | (with_reducible refine Blk.drew_ ?_) | (with_reducible refine Blk.alloc ?_ _) | (refine Blk.below ?_ (by assumption) (by first | omega | (simp; done) | (simp; omega)))), by (repeat' first | (with_reducible assumption) | (with_reducible exact Blk.new _ _ _) | (with_reducible refine Blk.drew_ ?_) | (with_reducible refine Blk.alloc ?_ _) | (refine Blk.below ?_ (by assumption) (by first | omega | (simp; done) | (simp; omega)))), by (repeat' first | (with_reducible assumption) | (with_reducible exact Blk.new _ _ _) | (with_reducible refine Blk.drew_ ?_) | (with_reducible refine Blk.alloc ?_ _) | (refine Blk.below ?_ (by assumption) (by first | omega | (simp; done) | (simp; omega)))), by (repeat' first | (with_reducible assumption) | (with_reducible exact Blk.new _ _ _) | (with_reducible refine Blk.drew_ ?_) | (with_reducible refine Blk.alloc ?_ _) | (refine Blk.below ?_ (by assumption) (by first | omega | (simp; done) | (simp; omega)))), by (repeat' first | (with_reducible assumption) | (with_reducible exact Blk.new _ _ _) | (with_reducible refine Blk.drew_ ?_) | (with_reducible refine Blk.alloc ?_ _) | (refine Blk.below ?_ (by assumption) (by first | omega | (simp; done) | (simp; omega)))), by first | omega | (simp; omega), by first | omega | (simp; omega)⟩
  case rest =>
  clear hw0 hwz hOl hOc hOf hEl hEc hEf hHl hHc hHf hAl hAc hAf hBO hBE hBH hBA 
  obtain ⟨gD, rfl, hw0, hBO, hBE, hBH, hBA, hBD, hge, hnA⟩ := hcut
  have hwz := hw0.size
  have hOl := hBO.lt
  have hOc := hBO.cell
  have hOf := hBO.frozen
  have hEl := hBE.lt
  have hEc := hBE.cell
  have hEf := hBE.frozen
  have hHl := hBH.lt
  have hHc := hBH.cell
  have hHf := hBH.frozen
  have hAl := hBA.lt
  have hAc := hBA.cell
  have hAf := hBA.frozen
  have hDl := hBD.lt
  have hDc := hBD.cell
  have hDf := hBD.frozen
  go_upto_region 7 with fail
  go_cut [] from 21 (fun  w' => Below w.heap.size w w' ∧ Blk w' (w.heap.size) 31 #[(Value.bool (o).opaq), (Value.int .i64 (o).id), (Value.string ⟨((o).scheme).toArray⟩), (Value.string ⟨(((o).host).name).toArray⟩), (Value.bool ((o).host).v4), (Value.int .u32 (((o).host).addr : Int)), (Value.int .i64 (o).port)] ∧ Blk w' (w.heap.size + 1) 24 #[.int .i64 ev, (Value.string ⟨(et).toArray⟩), .int .i64 er, (Value.string ⟨(eu).toArray⟩)] ∧ Blk w' (w.heap.size + 2) 51 #[(Value.string ⟨((u).scheme).toArray⟩), (Value.string ⟨(((u).host).name).toArray⟩), (Value.bool ((u).host).v4), (Value.int .u32 (((u).host).addr : Int)), (Value.int .i64 (u).port), (Value.string ⟨((u).path).toArray⟩), (Value.bool (u).hasQuery), (Value.string ⟨((u).query).toArray⟩), (Value.string ⟨((u).rest).toArray⟩), .slice A3 hl.length d3] ∧ Blk w' (gA) 40 #[.bool a1, .bool a2, .bool a3] ∧ Blk w' (gD) 24 #[.int .i64 ev, (Value.string ⟨(et).toArray⟩), .int .i64 rep, (Value.string ⟨(eu).toArray⟩)] ∧ w.heap.size + 2 < gD ∧ gA ≠ gD)
  case first =>
    go_wp2_with fail
    go_meet
    case rel =>
      exact ⟨by (repeat' first | (with_reducible exact Below.refl _ _) | (with_reducible refine Below.setCell ?_ (by first | omega | (simp; done) | (simp; omega)) _) | (with_reducible refine Below.alloc ?_ (by first | omega | (simp; done) | (simp; omega)) _) | refine below_drewN ?_ _ | refine Below.drew ?_ | (refine below_thru (by assumption) ?_ (by first | omega | (simp; done) | (simp; omega))) | exact Below.refl _ _), by (repeat' first | (with_reducible assumption) | (with_reducible exact Blk.new _ _ _) | (with_reducible refine Blk.far ?_ (by first | omega | (simp; omega) | (simp; done)) _) | (with_reducible refine Blk.drew_ ?_) | (with_reducible refine Blk.alloc ?_ _) | (refine Blk.below ?_ (by assumption) (by first | omega | (simp; done) | (simp; omega)))), by (repeat' first | (with_reducible assumption) | (with_reducible exact Blk.new _ _ _) | (with_reducible refine Blk.far ?_ (by first | omega | (simp; omega) | (simp; done)) _) | (with_reducible refine Blk.drew_ ?_) | (with_reducible refine Blk.alloc ?_ _) | (refine Blk.below ?_ (by assumption) (by first | omega | (simp; done) | (simp; omega)))), by (repeat' first | (with_reducible assumption) | (with_reducible exact Blk.new _ _ _) | (with_reducible refine Blk.far ?_ (by first | omega | (simp; omega) | (simp; done)) _) | (with_reducible refine Blk.drew_ ?_) | (with_reducible refine Blk.alloc ?_ _) | (refine Blk.below ?_ (by assumption) (by first | omega | (simp; done) | (simp; omega)))), by (repeat' first | (with_reducible assumption) | (with_reducible exact Blk.new _ _ _) | (with_reducible refine Blk.far ?_ (by first | omega | (simp; omega) | (simp; done)) _) | (with_reducible refine Blk.drew_ ?_) | (with_reducible refine Blk.alloc ?_ _) | (refine Blk.below ?_ (by assumption) (by first | omega | (simp; done) | (simp; omega)))), by exact hBD.set_ 2 (.int .i64 rep), by first | omega | (simp; omega), by first | omega | (simp; omega)⟩
  case rest =>
  clear hw0 hwz hOl hOc hOf hEl hEc hEf hHl hHc hHf hAl hAc hAf hDl hDc hDf hBO hBE hBH hBA hBD hge hnA
  obtain ⟨hw0, hBO, hBE, hBH, hBA, hBD, hge, hnA⟩ := hcut
  have hwz := hw0.size
  have hOl := hBO.lt
  have hOc := hBO.cell
  have hOf := hBO.frozen
  have hEl := hBE.lt
  have hEc := hBE.cell
  have hEf := hBE.frozen
  have hHl := hBH.lt
  have hHc := hBH.cell
  have hHf := hBH.frozen
  have hAl := hBA.lt
  have hAc := hBA.cell
  have hAf := hBA.frozen
  have hDl := hBD.lt
  have hDc := hBD.cell
  have hDf := hBD.frozen
  go_upto_region 8 with fail
  go_cut [19] from 21 (fun x19 w' => ∃ gB, x19 = .pointer (some ⟨gB, 0, none⟩) ∧ Below w.heap.size w w' ∧ Blk w' (w.heap.size) 31 #[(Value.bool (o).opaq), (Value.int .i64 (o).id), (Value.string ⟨((o).scheme).toArray⟩), (Value.string ⟨(((o).host).name).toArray⟩), (Value.bool ((o).host).v4), (Value.int .u32 (((o).host).addr : Int)), (Value.int .i64 (o).port)] ∧ Blk w' (w.heap.size + 1) 24 #[.int .i64 ev, (Value.string ⟨(et).toArray⟩), .int .i64 er, (Value.string ⟨(eu).toArray⟩)] ∧ Blk w' (w.heap.size + 2) 51 #[(Value.string ⟨((u).scheme).toArray⟩), (Value.string ⟨(((u).host).name).toArray⟩), (Value.bool ((u).host).v4), (Value.int .u32 (((u).host).addr : Int)), (Value.int .i64 (u).port), (Value.string ⟨((u).path).toArray⟩), (Value.bool (u).hasQuery), (Value.string ⟨((u).query).toArray⟩), (Value.string ⟨((u).rest).toArray⟩), .slice A3 hl.length d3] ∧ Blk w' (gA) 40 #[.bool a1, .bool a2, .bool a3] ∧ Blk w' (gD) 24 #[.int .i64 ev, (Value.string ⟨(et).toArray⟩), .int .i64 rep, (Value.string ⟨(eu).toArray⟩)] ∧ Blk w' (gB) 40 #[.bool a1, .bool a2, .bool b3] ∧ w.heap.size + 2 < gD ∧ gA ≠ gD ∧ gB ≠ gD)
  case first =>
    go_wp2_with (go_at_call 25; refine ( h2.out _ (by (repeat' first | (with_reducible exact Below.refl _ _) | (with_reducible refine Below.setCell ?_ (by first | omega | (simp; done) | (simp; omega)) _) | (with_reducible refine Below.alloc ?_ (by first | omega | (simp; done) | (simp; omega)) _) | refine below_drewN ?_ _ | refine Below.drew ?_ | (refine below_thru (by assumption) ?_ (by first | omega | (simp; done) | (simp; omega))) | exact Below.refl _ _))).mono ?_; rintro e w1 ⟨rfl, hb⟩; obtain ⟨hc, hfz⟩ := bcell hb; have hz := hb.size; (try simp at hz); (try have hz0 : w.heap.size < w1.heap.size := by omega); (try have hz1 : w.heap.size + 1 < w1.heap.size := by omega); (try have hz2 : w.heap.size + 2 < w1.heap.size := by omega); (try have hz3 : w.heap.size + 3 < w1.heap.size := by omega); (try have hcA := fun o => hc w.heap.size o (by first | omega | (simp; omega))); (try have hcB := fun o => hc (w.heap.size + 1) o (by first | omega | (simp; omega))); (try have hcGgA := fun o => hc gA o (by first | omega | (simp; omega))); (try have hfGgA := fun o => hfz gA o (by first | omega | (simp; omega))); (try have hzGgA : gA < w1.heap.size := by omega); (try have hcGgB := fun o => hc gB o (by first | omega | (simp; omega))); (try have hfGgB := fun o => hfz gB o (by first | omega | (simp; omega))); (try have hzGgB : gB < w1.heap.size := by omega); (try have hcGgC := fun o => hc gC o (by first | omega | (simp; omega))); (try have hfGgC := fun o => hfz gC o (by first | omega | (simp; omega))); (try have hzGgC : gC < w1.heap.size := by omega); (try have hcGgD := fun o => hc gD o (by first | omega | (simp; omega))); (try have hfGgD := fun o => hfz gD o (by first | omega | (simp; omega))); (try have hzGgD : gD < w1.heap.size := by omega))
    go_meet
    case rel =>
      exact ⟨_, rfl, by (repeat' first | (with_reducible exact Below.refl _ _) | (with_reducible refine Below.setCell ?_ (by first | omega | (simp; done) | (simp; omega)) _) | (with_reducible refine Below.alloc ?_ (by first | omega | (simp; done) | (simp; omega)) _) | refine below_drewN ?_ _ | refine Below.drew ?_ | (refine below_thru (by assumption) ?_ (by first | omega | (simp; done) | (simp; omega))) | exact Below.refl _ _), by (repeat' first | (with_reducible assumption) | (with_reducible exact Blk.new _ _ _) | (with_reducible refine Blk.drew_ ?_) | (with_reducible refine Blk.alloc ?_ _) | (refine Blk.below ?_ (by assumption) (by first | omega | (simp; done) | (simp; omega)))), by (repeat' first | (with_reducible assumption) | (with_reducible exact Blk.new _ _ _) | (with_reducible refine Blk.drew_ ?_) | (with_reducible refine Blk.alloc ?_ _) | (refine Blk.below ?_ (by assumption) (by first | omega | (simp; done) | (simp; omega)))), by (repeat' first | (with_reducible assumption) | (with_reducible exact Blk.new _ _ _) | (with_reducible refine Blk.drew_ ?_) | (with_reducible refine Blk.alloc ?_ _) | (refine Blk.below ?_ (by assumption) (by first | omega | (simp; done) | (simp; omega)))), by (repeat' first | (with_reducible assumption) | (with_reducible exact Blk.new _ _ _) | (with_reducible refine Blk.drew_ ?_) | (with_reducible refine Blk.alloc ?_ _) | (refine Blk.below ?_ (by assumption) (by first | omega | (simp; done) | (simp; omega)))), by (repeat' first | (with_reducible assumption) | (with_reducible exact Blk.new _ _ _) | (with_reducible refine Blk.drew_ ?_) | (with_reducible refine Blk.alloc ?_ _) | (refine Blk.below ?_ (by assumption) (by first | omega | (simp; done) | (simp; omega)))), by (repeat' first | (with_reducible assumption) | (with_reducible exact Blk.new _ _ _) | (with_reducible refine Blk.drew_ ?_) | (with_reducible refine Blk.alloc ?_ _) | (refine Blk.below ?_ (by assumption) (by first | omega | (simp; done) | (simp; omega)))), by first | omega | (simp; omega), by first | omega | (simp; omega), by first | omega | (simp; omega)⟩
  case rest =>
  clear hw0 hwz hOl hOc hOf hEl hEc hEf hHl hHc hHf hAl hAc hAf hDl hDc hDf hBO hBE hBH hBA hBD hge hnA
  obtain ⟨gB, rfl, hw0, hBO, hBE, hBH, hBA, hBD, hBB, hge, hnA, hnB⟩ := hcut
  have hwz := hw0.size
  have hOl := hBO.lt
  have hOc := hBO.cell
  have hOf := hBO.frozen
  have hEl := hBE.lt
  have hEc := hBE.cell
  have hEf := hBE.frozen
  have hHl := hBH.lt
  have hHc := hBH.cell
  have hHf := hBH.frozen
  have hAl := hBA.lt
  have hAc := hBA.cell
  have hAf := hBA.frozen
  have hDl := hBD.lt
  have hDc := hBD.cell
  have hDf := hBD.frozen
  have hBl := hBB.lt
  have hBc := hBB.cell
  have hBf := hBB.frozen
  go_upto_region 9 with fail
  go_cut [] from 21 (fun  w' => Below w.heap.size w w' ∧ Blk w' (w.heap.size) 31 #[(Value.bool (o).opaq), (Value.int .i64 (o).id), (Value.string ⟨((o).scheme).toArray⟩), (Value.string ⟨(((o).host).name).toArray⟩), (Value.bool ((o).host).v4), (Value.int .u32 (((o).host).addr : Int)), (Value.int .i64 (o).port)] ∧ Blk w' (w.heap.size + 1) 24 #[.int .i64 ev, (Value.string ⟨(et).toArray⟩), .int .i64 er, (Value.string ⟨(eu).toArray⟩)] ∧ Blk w' (w.heap.size + 2) 51 #[(Value.string ⟨((u).scheme).toArray⟩), (Value.string ⟨(((u).host).name).toArray⟩), (Value.bool ((u).host).v4), (Value.int .u32 (((u).host).addr : Int)), (Value.int .i64 (u).port), (Value.string ⟨((u).path).toArray⟩), (Value.bool (u).hasQuery), (Value.string ⟨((u).query).toArray⟩), (Value.string ⟨((u).rest).toArray⟩), .slice A3 hl.length d3] ∧ Blk w' (gA) 40 #[.bool a1, .bool a2, .bool a3] ∧ Blk w' (gD) 24 #[.int .i64 ev, (Value.string ⟨(et).toArray⟩), .int .i64 0, (Value.string ⟨(eu).toArray⟩)] ∧ Blk w' (gB) 40 #[.bool a1, .bool a2, .bool b3] ∧ w.heap.size + 2 < gD ∧ gA ≠ gD ∧ gB ≠ gD)
  case first =>
    go_wp2_with fail
    go_meet
    case rel =>
      exact ⟨by (repeat' first | (with_reducible exact Below.refl _ _) | (with_reducible refine Below.setCell ?_ (by first | omega | (simp; done) | (simp; omega)) _) | (with_reducible refine Below.alloc ?_ (by first | omega | (simp; done) | (simp; omega)) _) | refine below_drewN ?_ _ | refine Below.drew ?_ | (refine below_thru (by assumption) ?_ (by first | omega | (simp; done) | (simp; omega))) | exact Below.refl _ _), by (repeat' first | (with_reducible assumption) | (with_reducible exact Blk.new _ _ _) | (with_reducible refine Blk.far ?_ (by first | omega | (simp; omega) | (simp; done)) _) | (with_reducible refine Blk.drew_ ?_) | (with_reducible refine Blk.alloc ?_ _) | (refine Blk.below ?_ (by assumption) (by first | omega | (simp; done) | (simp; omega)))), by (repeat' first | (with_reducible assumption) | (with_reducible exact Blk.new _ _ _) | (with_reducible refine Blk.far ?_ (by first | omega | (simp; omega) | (simp; done)) _) | (with_reducible refine Blk.drew_ ?_) | (with_reducible refine Blk.alloc ?_ _) | (refine Blk.below ?_ (by assumption) (by first | omega | (simp; done) | (simp; omega)))), by (repeat' first | (with_reducible assumption) | (with_reducible exact Blk.new _ _ _) | (with_reducible refine Blk.far ?_ (by first | omega | (simp; omega) | (simp; done)) _) | (with_reducible refine Blk.drew_ ?_) | (with_reducible refine Blk.alloc ?_ _) | (refine Blk.below ?_ (by assumption) (by first | omega | (simp; done) | (simp; omega)))), by (repeat' first | (with_reducible assumption) | (with_reducible exact Blk.new _ _ _) | (with_reducible refine Blk.far ?_ (by first | omega | (simp; omega) | (simp; done)) _) | (with_reducible refine Blk.drew_ ?_) | (with_reducible refine Blk.alloc ?_ _) | (refine Blk.below ?_ (by assumption) (by first | omega | (simp; done) | (simp; omega)))), by exact hBD.set_ 2 (.int .i64 0), by (repeat' first | (with_reducible assumption) | (with_reducible exact Blk.new _ _ _) | (with_reducible refine Blk.far ?_ (by first | omega | (simp; omega) | (simp; done)) _) | (with_reducible refine Blk.drew_ ?_) | (with_reducible refine Blk.alloc ?_ _) | (refine Blk.below ?_ (by assumption) (by first | omega | (simp; done) | (simp; omega)))), by first | omega | (simp; omega), by first | omega | (simp; omega), by first | omega | (simp; omega)⟩
  case rest =>
  clear hw0 hwz hOl hOc hOf hEl hEc hEf hHl hHc hHf hAl hAc hAf hDl hDc hDf hBl hBc hBf hBO hBE hBH hBA hBD hBB hge hnA hnB
  obtain ⟨hw0, hBO, hBE, hBH, hBA, hBD, hBB, hge, hnA, hnB⟩ := hcut
  have hwz := hw0.size
  have hOl := hBO.lt
  have hOc := hBO.cell
  have hOf := hBO.frozen
  have hEl := hBE.lt
  have hEc := hBE.cell
  have hEf := hBE.frozen
  have hHl := hBH.lt
  have hHc := hBH.cell
  have hHf := hBH.frozen
  have hAl := hBA.lt
  have hAc := hBA.cell
  have hAf := hBA.frozen
  have hDl := hBD.lt
  have hDc := hBD.cell
  have hDf := hBD.frozen
  have hBl := hBB.lt
  have hBc := hBB.cell
  have hBf := hBB.frozen
  go_upto_region 10 with fail
  go_cut [20] from 21 (fun x20 w' => ∃ gC, x20 = .pointer (some ⟨gC, 0, none⟩) ∧ Below w.heap.size w w' ∧ Blk w' (w.heap.size) 31 #[(Value.bool (o).opaq), (Value.int .i64 (o).id), (Value.string ⟨((o).scheme).toArray⟩), (Value.string ⟨(((o).host).name).toArray⟩), (Value.bool ((o).host).v4), (Value.int .u32 (((o).host).addr : Int)), (Value.int .i64 (o).port)] ∧ Blk w' (w.heap.size + 1) 24 #[.int .i64 ev, (Value.string ⟨(et).toArray⟩), .int .i64 er, (Value.string ⟨(eu).toArray⟩)] ∧ Blk w' (w.heap.size + 2) 51 #[(Value.string ⟨((u).scheme).toArray⟩), (Value.string ⟨(((u).host).name).toArray⟩), (Value.bool ((u).host).v4), (Value.int .u32 (((u).host).addr : Int)), (Value.int .i64 (u).port), (Value.string ⟨((u).path).toArray⟩), (Value.bool (u).hasQuery), (Value.string ⟨((u).query).toArray⟩), (Value.string ⟨((u).rest).toArray⟩), .slice A3 hl.length d3] ∧ Blk w' (gA) 40 #[.bool a1, .bool a2, .bool a3] ∧ Blk w' (gD) 24 #[.int .i64 ev, (Value.string ⟨(et).toArray⟩), .int .i64 0, (Value.string ⟨(eu).toArray⟩)] ∧ Blk w' (gB) 40 #[.bool a1, .bool a2, .bool b3] ∧ Blk w' (gC) 40 #[.bool a1, .bool a2, .bool false] ∧ w.heap.size + 2 < gD ∧ gA ≠ gD ∧ gB ≠ gD)
  case first =>
    go_wp2_with (go_at_call 25; refine ( h3.out _ (by (repeat' first | (with_reducible exact Below.refl _ _) | (with_reducible refine Below.setCell ?_ (by first | omega | (simp; done) | (simp; omega)) _) | (with_reducible refine Below.alloc ?_ (by first | omega | (simp; done) | (simp; omega)) _) | refine below_drewN ?_ _ | refine Below.drew ?_ | (refine below_thru (by assumption) ?_ (by first | omega | (simp; done) | (simp; omega))) | exact Below.refl _ _))).mono ?_; rintro e w1 ⟨rfl, hb⟩; obtain ⟨hc, hfz⟩ := bcell hb; have hz := hb.size; (try simp at hz); (try have hz0 : w.heap.size < w1.heap.size := by omega); (try have hz1 : w.heap.size + 1 < w1.heap.size := by omega); (try have hz2 : w.heap.size + 2 < w1.heap.size := by omega); (try have hz3 : w.heap.size + 3 < w1.heap.size := by omega); (try have hcA := fun o => hc w.heap.size o (by first | omega | (simp; omega))); (try have hcB := fun o => hc (w.heap.size + 1) o (by first | omega | (simp; omega))); (try have hcGgA := fun o => hc gA o (by first | omega | (simp; omega))); (try have hfGgA := fun o => hfz gA o (by first | omega | (simp; omega))); (try have hzGgA : gA < w1.heap.size := by omega); (try have hcGgB := fun o => hc gB o (by first | omega | (simp; omega))); (try have hfGgB := fun o => hfz gB o (by first | omega | (simp; omega))); (try have hzGgB : gB < w1.heap.size := by omega); (try have hcGgC := fun o => hc gC o (by first | omega | (simp; omega))); (try have hfGgC := fun o => hfz gC o (by first | omega | (simp; omega))); (try have hzGgC : gC < w1.heap.size := by omega); (try have hcGgD := fun o => hc gD o (by first | omega | (simp; omega))); (try have hfGgD := fun o => hfz gD o (by first | omega | (simp; omega))); (try have hzGgD : gD < w1.heap.size := by omega))
    go_meet
    case rel =>
      exact ⟨_, rfl, by (repeat' first | (with_reducible exact Below.refl _ _) | (with_reducible refine Below.setCell ?_ (by first | omega | (simp; done) | (simp; omega)) _) | (with_reducible refine Below.alloc ?_ (by first | omega | (simp; done) | (simp; omega)) _) | refine below_drewN ?_ _ | refine Below.drew ?_ | (refine below_thru (by assumption) ?_ (by first | omega | (simp; done) | (simp; omega))) | exact Below.refl _ _), by (repeat' first | (with_reducible assumption) | (with_reducible exact Blk.new _ _ _) | (with_reducible refine Blk.drew_ ?_) | (with_reducible refine Blk.alloc ?_ _) | (refine Blk.below ?_ (by assumption) (by first | omega | (simp; done) | (simp; omega)))), by (repeat' first | (with_reducible assumption) | (with_reducible exact Blk.new _ _ _) | (with_reducible refine Blk.drew_ ?_) | (with_reducible refine Blk.alloc ?_ _) | (refine Blk.below ?_ (by assumption) (by first | omega | (simp; done) | (simp; omega)))), by (repeat' first | (with_reducible assumption) | (with_reducible exact Blk.new _ _ _) | (with_reducible refine Blk.drew_ ?_) | (with_reducible refine Blk.alloc ?_ _) | (refine Blk.below ?_ (by assumption) (by first | omega | (simp; done) | (simp; omega)))), by (repeat' first | (with_reducible assumption) | (with_reducible exact Blk.new _ _ _) | (with_reducible refine Blk.drew_ ?_) | (with_reducible refine Blk.alloc ?_ _) | (refine Blk.below ?_ (by assumption) (by first | omega | (simp; done) | (simp; omega)))), by (repeat' first | (with_reducible assumption) | (with_reducible exact Blk.new _ _ _) | (with_reducible refine Blk.drew_ ?_) | (with_reducible refine Blk.alloc ?_ _) | (refine Blk.below ?_ (by assumption) (by first | omega | (simp; done) | (simp; omega)))), by (repeat' first | (with_reducible assumption) | (with_reducible exact Blk.new _ _ _) | (with_reducible refine Blk.drew_ ?_) | (with_reducible refine Blk.alloc ?_ _) | (refine Blk.below ?_ (by assumption) (by first | omega | (simp; done) | (simp; omega)))), by (repeat' first | (with_reducible assumption) | (with_reducible exact Blk.new _ _ _) | (with_reducible refine Blk.drew_ ?_) | (with_reducible refine Blk.alloc ?_ _) | (refine Blk.below ?_ (by assumption) (by first | omega | (simp; done) | (simp; omega)))), by first | omega | (simp; omega), by first | omega | (simp; omega), by first | omega | (simp; omega)⟩
  case rest =>
  clear hw0 hwz hOl hOc hOf hEl hEc hEf hHl hHc hHf hAl hAc hAf hDl hDc hDf hBl hBc hBf hBO hBE hBH hBA hBD hBB hge hnA hnB
  obtain ⟨gC, rfl, hw0, hBO, hBE, hBH, hBA, hBD, hBB, hBC, hge, hnA, hnB⟩ := hcut
  have hwz := hw0.size
  have hOl := hBO.lt
  have hOc := hBO.cell
  have hOf := hBO.frozen
  have hEl := hBE.lt
  have hEc := hBE.cell
  have hEf := hBE.frozen
  have hHl := hBH.lt
  have hHc := hBH.cell
  have hHf := hBH.frozen
  have hAl := hBA.lt
  have hAc := hBA.cell
  have hAf := hBA.frozen
  have hDl := hBD.lt
  have hDc := hBD.cell
  have hDf := hBD.frozen
  have hBl := hBB.lt
  have hBc := hBB.cell
  have hBf := hBB.frozen
  have hCl := hBC.lt
  have hCc := hBC.cell
  have hCf := hBC.frozen
  rcases hcases.out with ⟨rfl, rfl⟩ | ⟨rfl, rfl⟩ | ⟨rfl, rfl⟩
  · go_wp2_with fail
    go_ret
    exact ⟨rfl, by (repeat' first | (with_reducible exact Below.refl _ _) | (with_reducible refine Below.setCell ?_ (by first | omega | (simp; done) | (simp; omega)) _) | (with_reducible refine Below.alloc ?_ (by first | omega | (simp; done) | (simp; omega)) _) | refine below_drewN ?_ _ | refine Below.drew ?_ | (refine below_thru (by assumption) ?_ (by first | omega | (simp; done) | (simp; omega))) | exact Below.refl _ _)⟩
  · go_wp2_with fail
    go_ret
    exact ⟨rfl, by (repeat' first | (with_reducible exact Below.refl _ _) | (with_reducible refine Below.setCell ?_ (by first | omega | (simp; done) | (simp; omega)) _) | (with_reducible refine Below.alloc ?_ (by first | omega | (simp; done) | (simp; omega)) _) | refine below_drewN ?_ _ | refine Below.drew ?_ | (refine below_thru (by assumption) ?_ (by first | omega | (simp; done) | (simp; omega))) | exact Below.refl _ _)⟩
  · obtain rfl := hA3.out rfl rfl
    go_wp2_with fail
    go_ret
    exact ⟨rfl, by (repeat' first | (with_reducible exact Below.refl _ _) | (with_reducible refine Below.setCell ?_ (by first | omega | (simp; done) | (simp; omega)) _) | (with_reducible refine Below.alloc ?_ (by first | omega | (simp; done) | (simp; omega)) _) | refine below_drewN ?_ _ | refine Below.drew ?_ | (refine below_thru (by assumption) ?_ (by first | omega | (simp; done) | (simp; omega))) | exact Below.refl _ _)⟩
end Go.Proofs.YtkfoogmncokjnaaGreatDoor
