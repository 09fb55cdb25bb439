/- glacislaw14.CorpgateOwn. -/
import Derived.Test.YtbafofldgkigmaaGreatDoorPlain14c
import Derived.Test.YtbafofldgkigmaaGreatDoorGate
namespace Go.Proofs.YtbafofldgkigmaaGreatDoor
open Go.RowKit
attribute [local irreducible] Calls
set_option maxRecDepth 100000 in
set_option maxHeartbeats 4000000 in
theorem law14_own (ev er : Int) (et eu : List UInt8) (nav : Bool) (u : Gl.URL) (vh : Value) (hl : List Gl.Head) (creds : Bool) (v : Value) (S : List (List UInt8)) (w : World) (hE : Env w) (hH : Heads w vh hl) (hu : u.host.addr < 4294967296) (hv : Strs w w.heap.size v S) (hr : u.rest.length ≤ 1048576) : Calls Tryz.prog 3 #[.agg #[.int .i64 ev, (Value.string ⟨(et).toArray⟩), .int .i64 er, (Value.string ⟨(eu).toArray⟩)], .bool nav, .agg #[(Value.string ⟨((u).scheme).toArray⟩), (Value.string ⟨(((u).host).name).toArray⟩), (Value.bool ((u).host).v4), (Value.int .u32 (((u).host).addr : Int)), (Value.int .i64 (u).port), (Value.string ⟨((u).path).toArray⟩), (Value.bool (u).hasQuery), (Value.string ⟨((u).query).toArray⟩), (Value.string ⟨((u).rest).toArray⟩), vh], .bool creds, v] w (Ret w (.bool true)) := by
  have hup := fun W (hW : Below w.heap.size w W) => awake14 W (hE.below hW)
  replace hup := Lib.hid hup
  have hof := fun W (hW : Below w.heap.size w W) => origin_of u 1 W (hE.below hW) (by omega)
  have hsm := fun W (hW : Below w.heap.size w W) => law14_small (Gl.originOf u 1) u vh hl v S W (hH.below hW) ((hv.keep hW).more hW.size)
  have hok := small14_any (o := Gl.originOf u 1) (vh := vh) (hl := hl) hu hv
  have h1 := fun (hk : HopFit u hl ∧ Sufs w v S) W (hW : Below w.heap.size w W) => corp_check (Gl.originOf u 1) ev er et eu nav creds u vh hl v S W (hE.below hW) (originOf_fits u 1 hu hk.1.name) (hH.below hW) hk.1 (hk.2.below hW)
  have h2 := fun (hk : HopFit u hl ∧ Sufs w v S) gV W (hW : Below w.heap.size w W) (hB : Blk W gV 39 #[.string ⟨#[99, 114, 111, 115, 115, 45, 111, 114, 105, 103, 105, 110, 45, 114, 101, 115, 111, 117, 114, 99, 101, 45, 112, 111, 108, 105, 99, 121]⟩, .string ⟨#[99, 114, 111, 115, 115, 45, 111, 114, 105, 103, 105, 110]⟩]) => corp_check o14N ev er et eu nav creds u (.slice (some ⟨gV, 0, none⟩) 1 1) [hd14x] v S W (hE.below hW) fits14N (Blk.slots14 (c := hcells hd14x) hB) (hop14x hk.1) (hk.2.below hW)
  rw [gate_own14, gate_own14, gate_own14] at h1
  have e2 : ∀ k, Gl.gate o14N u [hd14x] k creds nav S = true := fun k => gate_all14 _ _ _ _ _ _
  simp only [e2] at h2
  rw [show Gl.gateV true true true = .agg #[.bool true, .bool false, .bool false] from rfl] at h1 h2
  clear e2
  generalize (smallHops (Gl.originOf u 1) [⟨u, vh, hl⟩] && smallS S) = q at *
  generalize Gl.originOf u 1 = o at *
  obtain ⟨A3, d3, rfl⟩ := hH.form
  obtain ⟨vA, vc, rfl, _⟩ := id hv
  clear hH hv
  replace hsm := Lib.hid hsm
  replace hok := Lib.hid hok
  replace hof := Lib.hid hof
  replace h1 := Lib.hid h1
  replace h2 := Lib.hid h2
  cases q
  · go_enter Tryz.func3, Tryz.ntmps3
    go_wp2_with (first | (go_at_call 14; refine (hup.out _ (bw_)).mono ?_; rintro e w1 ⟨rfl, hb⟩; obtain ⟨hc, hfz⟩ := bcell hb; have hz := hb.size; (try simp at hz); (try have hz0 := lt_ hb w.heap.size); (try have hz1 := lt_ hb (w.heap.size + 1)); (try have hz2 := lt_ hb (w.heap.size + 2)); (try have hz3 := lt_ hb (w.heap.size + 3)); (try have hcA := fun o => hc w.heap.size o sz_); (try have hcB := fun o => hc (w.heap.size + 1) o sz_); (try (have i := cf_ hb gA; obtain ⟨hcGgA, hfGgA, hzGgA⟩ := i)); (try (have i := cf_ hb gB; obtain ⟨hcGgB, hfGgB, hzGgB⟩ := i)); (try (have i := cf_ hb gV; obtain ⟨hcGgV, hfGgV, hzGgV⟩ := i))) | ((first | (go_at_call 15; refine (hof.out _ (bw_)).mono ?_) | (go_at_call 16; refine (hsm.out _ (bw_)).mono ?_)); rintro e w1 ⟨rfl, hb⟩; obtain ⟨hc, hfz⟩ := bcell hb; have hz := hb.size; (try simp at hz); (try have hz0 := lt_ hb w.heap.size); (try have hz1 := lt_ hb (w.heap.size + 1)); (try have hz2 := lt_ hb (w.heap.size + 2)); (try have hz3 := lt_ hb (w.heap.size + 3)); (try have hcA := fun o => hc w.heap.size o sz_); (try have hcB := fun o => hc (w.heap.size + 1) o sz_); (try (have i := cf_ hb gA; obtain ⟨hcGgA, hfGgA, hzGgA⟩ := i)); (try (have i := cf_ hb gB; obtain ⟨hcGgB, hfGgB, hzGgB⟩ := i)); (try (have i := cf_ hb gD; obtain ⟨hcGgD, hfGgD, hzGgD⟩ := i)); (try (have i := cf_ hb gV; obtain ⟨hcGgV, hfGgV, hzGgV⟩ := i))))
    go_ret
    exact ⟨rfl, bw_⟩
  have hk := hok.out rfl
  clear hok
  replace h1 := Lib.hid (h1.out hk)
  replace h2 := Lib.hid (h2.out hk)
  clear hk
  go_enter Tryz.func3, Tryz.ntmps3
  go_upto_region 1 with fail
  generalize hW0 : ((w.alloc (Obj.cells #[.int .i64 ev, (Value.string ⟨(et).toArray⟩), .int .i64 er, (Value.string ⟨(eu).toArray⟩)] 23)).alloc (Obj.cells #[(Value.string ⟨((u).scheme).toArray⟩), (Value.string ⟨(((u).host).name).toArray⟩), (Value.bool ((u).host).v4), (Value.int .u32 (((u).host).addr : Int)), (Value.int .i64 (u).port), (Value.string ⟨((u).path).toArray⟩), (Value.bool (u).hasQuery), (Value.string ⟨((u).query).toArray⟩), (Value.string ⟨((u).rest).toArray⟩), .slice A3 hl.length d3] 31)) = W0
  have hw0 : Below w.heap.size w W0 := by rw [← hW0]; (exact bw_)
  have hBE : Blk W0 (w.heap.size) 23 #[.int .i64 ev, (Value.string ⟨(et).toArray⟩), .int .i64 er, (Value.string ⟨(eu).toArray⟩)] := by rw [← hW0]; exact (Blk.alloc (Blk.new _ _ _) _)
  have hBH : Blk W0 (w.heap.size + 1) 31 #[(Value.string ⟨((u).scheme).toArray⟩), (Value.string ⟨(((u).host).name).toArray⟩), (Value.bool ((u).host).v4), (Value.int .u32 (((u).host).addr : Int)), (Value.int .i64 (u).port), (Value.string ⟨((u).path).toArray⟩), (Value.bool (u).hasQuery), (Value.string ⟨((u).query).toArray⟩), (Value.string ⟨((u).rest).toArray⟩), .slice A3 hl.length d3] := by rw [← hW0]; exact (by have := Blk.new (w.alloc (Obj.cells #[.int .i64 ev, (Value.string ⟨(et).toArray⟩), .int .i64 er, (Value.string ⟨(eu).toArray⟩)] 23)) 31 #[(Value.string ⟨((u).scheme).toArray⟩), (Value.string ⟨(((u).host).name).toArray⟩), (Value.bool ((u).host).v4), (Value.int .u32 (((u).host).addr : Int)), (Value.int .i64 (u).port), (Value.string ⟨((u).path).toArray⟩), (Value.bool (u).hasQuery), (Value.string ⟨((u).query).toArray⟩), (Value.string ⟨((u).rest).toArray⟩), .slice A3 hl.length d3]; simpa [World.size_alloc] using this)
  clear hW0
  have hwz := hw0.size
  have hEl := hBE.lt
  have hEc := hBE.cell
  have hEf := hBE.frozen
  have hHl := hBH.lt
  have hHc := hBH.cell
  have hHf := hBH.frozen
  go_upto_region 1 with fail
  go_cut [11] from 17 (fun x11 w' => x11 = .bool true ∧ Below w.heap.size w w' ∧ Blk w' (w.heap.size) 23 #[.int .i64 ev, (Value.string ⟨(et).toArray⟩), .int .i64 er, (Value.string ⟨(eu).toArray⟩)] ∧ Blk w' (w.heap.size + 1) 31 #[(Value.string ⟨((u).scheme).toArray⟩), (Value.string ⟨(((u).host).name).toArray⟩), (Value.bool ((u).host).v4), (Value.int .u32 (((u).host).addr : Int)), (Value.int .i64 (u).port), (Value.string ⟨((u).path).toArray⟩), (Value.bool (u).hasQuery), (Value.string ⟨((u).query).toArray⟩), (Value.string ⟨((u).rest).toArray⟩), .slice A3 hl.length d3])
  case first =>
    go_wp2_with (go_at_call 14; refine (hup.out _ (bw_)).mono ?_; rintro e w1 ⟨rfl, hb⟩; obtain ⟨hc, hfz⟩ := bcell hb; have hz := hb.size; (try simp at hz); (try have hz0 := lt_ hb w.heap.size); (try have hz1 := lt_ hb (w.heap.size + 1)); (try have hz2 := lt_ hb (w.heap.size + 2)); (try have hz3 := lt_ hb (w.heap.size + 3)); (try have hcA := fun o => hc w.heap.size o sz_); (try have hcB := fun o => hc (w.heap.size + 1) o sz_); (try (have i := cf_ hb gA; obtain ⟨hcGgA, hfGgA, hzGgA⟩ := i)); (try (have i := cf_ hb gB; obtain ⟨hcGgB, hfGgB, hzGgB⟩ := i)); (try (have i := cf_ hb gV; obtain ⟨hcGgV, hfGgV, hzGgV⟩ := i)))
    go_meet
    case rel =>
      exact ⟨rfl, bw_, bk_, bk_⟩
  case rest =>
  clear hw0 hwz hEl hEc hEf hHl hHc hHf hBE hBH 
  obtain ⟨rfl, hw0, hBE, hBH⟩ := hcut
  have hwz := hw0.size
  have hEl := hBE.lt
  have hEc := hBE.cell
  have hEf := hBE.frozen
  have hHl := hBH.lt
  have hHc := hBH.cell
  have hHf := hBH.frozen
  go_upto_region 2 with fail
  go_cut [12] from 17 (fun x12 w' => ∃ gP, x12 = .pointer (some ⟨gP, 0, none⟩) ∧ Below w.heap.size w w' ∧ Blk w' (w.heap.size) 23 #[.int .i64 ev, (Value.string ⟨(et).toArray⟩), .int .i64 er, (Value.string ⟨(eu).toArray⟩)] ∧ Blk w' (w.heap.size + 1) 31 #[(Value.string ⟨((u).scheme).toArray⟩), (Value.string ⟨(((u).host).name).toArray⟩), (Value.bool ((u).host).v4), (Value.int .u32 (((u).host).addr : Int)), (Value.int .i64 (u).port), (Value.string ⟨((u).path).toArray⟩), (Value.bool (u).hasQuery), (Value.string ⟨((u).query).toArray⟩), (Value.string ⟨((u).rest).toArray⟩), .slice A3 hl.length d3] ∧ Blk w' (gP) 35 #[(Value.bool (o).opaq), (Value.int .i64 (o).id), (Value.string ⟨((o).scheme).toArray⟩), (Value.string ⟨(((o).host).name).toArray⟩), (Value.bool ((o).host).v4), (Value.int .u32 (((o).host).addr : Int)), (Value.int .i64 (o).port)])
  case first =>
    go_wp2_with (go_at_call 15; refine (hof.out _ (bw_)).mono ?_; rintro e w1 ⟨rfl, hb⟩; obtain ⟨hc, hfz⟩ := bcell hb; have hz := hb.size; (try simp at hz); (try have hz0 := lt_ hb w.heap.size); (try have hz1 := lt_ hb (w.heap.size + 1)); (try have hz2 := lt_ hb (w.heap.size + 2)); (try have hz3 := lt_ hb (w.heap.size + 3)); (try have hcA := fun o => hc w.heap.size o sz_); (try have hcB := fun o => hc (w.heap.size + 1) o sz_); (try (have i := cf_ hb gA; obtain ⟨hcGgA, hfGgA, hzGgA⟩ := i)); (try (have i := cf_ hb gB; obtain ⟨hcGgB, hfGgB, hzGgB⟩ := i)); (try (have i := cf_ hb gD; obtain ⟨hcGgD, hfGgD, hzGgD⟩ := i)); (try (have i := cf_ hb gV; obtain ⟨hcGgV, hfGgV, hzGgV⟩ := i)))
    go_meet
    case rel =>
      exact ⟨_, rfl, bw_, bk_, bk_, bk_⟩
  case rest =>
  clear hw0 hwz hEl hEc hEf hHl hHc hHf hBE hBH 
  obtain ⟨gP, rfl, hw0, hBE, hBH, hBP⟩ := hcut
  have hwz := hw0.size
  have hEl := hBE.lt
  have hEc := hBE.cell
  have hEf := hBE.frozen
  have hHl := hBH.lt
  have hHc := hBH.cell
  have hHf := hBH.frozen
  have hPl := hBP.lt
  have hPc := hBP.cell
  have hPf := hBP.frozen
  go_upto_region 3 with fail
  go_cut [13] from 17 (fun x13 w' => x13 = .bool true ∧ Below w.heap.size w w' ∧ Blk w' (w.heap.size) 23 #[.int .i64 ev, (Value.string ⟨(et).toArray⟩), .int .i64 er, (Value.string ⟨(eu).toArray⟩)] ∧ Blk w' (w.heap.size + 1) 31 #[(Value.string ⟨((u).scheme).toArray⟩), (Value.string ⟨(((u).host).name).toArray⟩), (Value.bool ((u).host).v4), (Value.int .u32 (((u).host).addr : Int)), (Value.int .i64 (u).port), (Value.string ⟨((u).path).toArray⟩), (Value.bool (u).hasQuery), (Value.string ⟨((u).query).toArray⟩), (Value.string ⟨((u).rest).toArray⟩), .slice A3 hl.length d3] ∧ Blk w' (gP) 35 #[(Value.bool (o).opaq), (Value.int .i64 (o).id), (Value.string ⟨((o).scheme).toArray⟩), (Value.string ⟨(((o).host).name).toArray⟩), (Value.bool ((o).host).v4), (Value.int .u32 (((o).host).addr : Int)), (Value.int .i64 (o).port)])
  case first =>
    go_wp2_with (go_at_call 16; refine (hsm.out _ (bw_)).mono ?_; rintro e w1 ⟨rfl, hb⟩; obtain ⟨hc, hfz⟩ := bcell hb; have hz := hb.size; (try simp at hz); (try have hz0 := lt_ hb w.heap.size); (try have hz1 := lt_ hb (w.heap.size + 1)); (try have hz2 := lt_ hb (w.heap.size + 2)); (try have hz3 := lt_ hb (w.heap.size + 3)); (try have hcA := fun o => hc w.heap.size o sz_); (try have hcB := fun o => hc (w.heap.size + 1) o sz_); (try (have i := cf_ hb gA; obtain ⟨hcGgA, hfGgA, hzGgA⟩ := i)); (try (have i := cf_ hb gB; obtain ⟨hcGgB, hfGgB, hzGgB⟩ := i)); (try (have i := cf_ hb gD; obtain ⟨hcGgD, hfGgD, hzGgD⟩ := i)); (try (have i := cf_ hb gV; obtain ⟨hcGgV, hfGgV, hzGgV⟩ := i)))
    go_meet
    case rel =>
      exact ⟨rfl, bw_, bk_, bk_, bk_⟩
  case rest =>
  clear hw0 hwz hEl hEc hEf hHl hHc hHf hPl hPc hPf hBE hBH hBP 
  obtain ⟨rfl, hw0, hBE, hBH, hBP⟩ := hcut
  have hwz := hw0.size
  have hEl := hBE.lt
  have hEc := hBE.cell
  have hEf := hBE.frozen
  have hHl := hBH.lt
  have hHc := hBH.cell
  have hHf := hBH.frozen
  have hPl := hBP.lt
  have hPc := hBP.cell
  have hPf := hBP.frozen
  go_upto_region 6 with fail
  go_cut [14] from 17 (fun x14 w' => ∃ gD, x14 = .pointer (some ⟨gD, 0, none⟩) ∧ Below w.heap.size w w' ∧ Blk w' (w.heap.size) 23 #[.int .i64 ev, (Value.string ⟨(et).toArray⟩), .int .i64 er, (Value.string ⟨(eu).toArray⟩)] ∧ Blk w' (w.heap.size + 1) 31 #[(Value.string ⟨((u).scheme).toArray⟩), (Value.string ⟨(((u).host).name).toArray⟩), (Value.bool ((u).host).v4), (Value.int .u32 (((u).host).addr : Int)), (Value.int .i64 (u).port), (Value.string ⟨((u).path).toArray⟩), (Value.bool (u).hasQuery), (Value.string ⟨((u).query).toArray⟩), (Value.string ⟨((u).rest).toArray⟩), .slice A3 hl.length d3] ∧ Blk w' (gP) 35 #[(Value.bool (o).opaq), (Value.int .i64 (o).id), (Value.string ⟨((o).scheme).toArray⟩), (Value.string ⟨(((o).host).name).toArray⟩), (Value.bool ((o).host).v4), (Value.int .u32 (((o).host).addr : Int)), (Value.int .i64 (o).port)] ∧ Blk w' (gD) 31 #[(Value.string ⟨((u).scheme).toArray⟩), (Value.string ⟨(((u).host).name).toArray⟩), (Value.bool ((u).host).v4), (Value.int .u32 (((u).host).addr : Int)), (Value.int .i64 (u).port), (Value.string ⟨((u).path).toArray⟩), (Value.bool (u).hasQuery), (Value.string ⟨((u).query).toArray⟩), (Value.string ⟨((u).rest).toArray⟩), .slice A3 hl.length d3] ∧ w.heap.size + 1 < gD ∧ gP ≠ gD)
  case first =>
    go_wp2_with fail
    go_meet
    case rel =>
      exact ⟨_, rfl, bw_, bk_, bk_, bk_, bk_, by first | omega | (simp; omega), by first | omega | (simp; omega)⟩
  case rest =>
  clear hw0 hwz hEl hEc hEf hHl hHc hHf hPl hPc hPf hBE hBH hBP 
  obtain ⟨gD, rfl, hw0, hBE, hBH, hBP, hBD, hge, hnP⟩ := hcut
  have hwz := hw0.size
  have hEl := hBE.lt
  have hEc := hBE.cell
  have hEf := hBE.frozen
  have hHl := hBH.lt
  have hHc := hBH.cell
  have hHf := hBH.frozen
  have hPl := hBP.lt
  have hPc := hBP.cell
  have hPf := hBP.frozen
  have hDl := hBD.lt
  have hDc := hBD.cell
  have hDf := hBD.frozen
  go_upto_region 7 with fail
  go_cut [] from 17 (fun  w' => ∃ gV, Below w.heap.size w w' ∧ Blk w' (w.heap.size) 23 #[.int .i64 ev, (Value.string ⟨(et).toArray⟩), .int .i64 er, (Value.string ⟨(eu).toArray⟩)] ∧ Blk w' (w.heap.size + 1) 31 #[(Value.string ⟨((u).scheme).toArray⟩), (Value.string ⟨(((u).host).name).toArray⟩), (Value.bool ((u).host).v4), (Value.int .u32 (((u).host).addr : Int)), (Value.int .i64 (u).port), (Value.string ⟨((u).path).toArray⟩), (Value.bool (u).hasQuery), (Value.string ⟨((u).query).toArray⟩), (Value.string ⟨((u).rest).toArray⟩), .slice A3 hl.length d3] ∧ Blk w' (gP) 35 #[(Value.bool (o).opaq), (Value.int .i64 (o).id), (Value.string ⟨((o).scheme).toArray⟩), (Value.string ⟨(((o).host).name).toArray⟩), (Value.bool ((o).host).v4), (Value.int .u32 (((o).host).addr : Int)), (Value.int .i64 (o).port)] ∧ Blk w' (gD) 31 #[(Value.string ⟨((u).scheme).toArray⟩), (Value.string ⟨(((u).host).name).toArray⟩), (Value.bool ((u).host).v4), (Value.int .u32 (((u).host).addr : Int)), (Value.int .i64 (u).port), (Value.string ⟨((u).path).toArray⟩), (Value.bool (u).hasQuery), (Value.string ⟨((u).query).toArray⟩), (Value.string ⟨((u).rest).toArray⟩), .slice (some ⟨gV, 0, none⟩) 1 1] ∧ Blk w' (gV) 39 #[.string ⟨#[99, 114, 111, 115, 115, 45, 111, 114, 105, 103, 105, 110, 45, 114, 101, 115, 111, 117, 114, 99, 101, 45, 112, 111, 108, 105, 99, 121]⟩, .string ⟨#[99, 114, 111, 115, 115, 45, 111, 114, 105, 103, 105, 110]⟩] ∧ w.heap.size + 1 < gD ∧ gP ≠ gD)
  case first =>
    go_wp2_with fail
    go_meet
    case rel =>
      exact ⟨_, bw_, bks_, bks_, bks_, by exact (hBD.set_ 9 _).alloc _, by have hh := Blk.new (wc.setCell ⟨gD, 9, none⟩ (.slice (some ⟨wc.heap.size, 0, none⟩) 1 1)) 39 #[.string ⟨#[99, 114, 111, 115, 115, 45, 111, 114, 105, 103, 105, 110, 45, 114, 101, 115, 111, 117, 114, 99, 101, 45, 112, 111, 108, 105, 99, 121]⟩, .string ⟨#[99, 114, 111, 115, 115, 45, 111, 114, 105, 103, 105, 110]⟩]; rwa [World.size_setCell] at hh, hge, hnP⟩
  case rest =>
  clear hw0 hwz hEl hEc hEf hHl hHc hHf hPl hPc hPf hDl hDc hDf hBE hBH hBP hBD hge hnP
  obtain ⟨gV, hw0, hBE, hBH, hBP, hBD, hBV, hge, hnP⟩ := hcut
  have hwz := hw0.size
  have hEl := hBE.lt
  have hEc := hBE.cell
  have hEf := hBE.frozen
  have hHl := hBH.lt
  have hHc := hBH.cell
  have hHf := hBH.frozen
  have hPl := hBP.lt
  have hPc := hBP.cell
  have hPf := hBP.frozen
  have hDl := hBD.lt
  have hDc := hBD.cell
  have hDf := hBD.frozen
  have hVl := hBV.lt
  have hVc := hBV.cell
  have hVf := hBV.frozen
  go_upto_region 8 with fail
  go_cut [15] from 17 (fun x15 w' => ∃ gA, x15 = .pointer (some ⟨gA, 0, none⟩) ∧ Below w.heap.size w w' ∧ Blk w' (w.heap.size) 23 #[.int .i64 ev, (Value.string ⟨(et).toArray⟩), .int .i64 er, (Value.string ⟨(eu).toArray⟩)] ∧ Blk w' (w.heap.size + 1) 31 #[(Value.string ⟨((u).scheme).toArray⟩), (Value.string ⟨(((u).host).name).toArray⟩), (Value.bool ((u).host).v4), (Value.int .u32 (((u).host).addr : Int)), (Value.int .i64 (u).port), (Value.string ⟨((u).path).toArray⟩), (Value.bool (u).hasQuery), (Value.string ⟨((u).query).toArray⟩), (Value.string ⟨((u).rest).toArray⟩), .slice A3 hl.length d3] ∧ Blk w' (gP) 35 #[(Value.bool (o).opaq), (Value.int .i64 (o).id), (Value.string ⟨((o).scheme).toArray⟩), (Value.string ⟨(((o).host).name).toArray⟩), (Value.bool ((o).host).v4), (Value.int .u32 (((o).host).addr : Int)), (Value.int .i64 (o).port)] ∧ Blk w' (gD) 31 #[(Value.string ⟨((u).scheme).toArray⟩), (Value.string ⟨(((u).host).name).toArray⟩), (Value.bool ((u).host).v4), (Value.int .u32 (((u).host).addr : Int)), (Value.int .i64 (u).port), (Value.string ⟨((u).path).toArray⟩), (Value.bool (u).hasQuery), (Value.string ⟨((u).query).toArray⟩), (Value.string ⟨((u).rest).toArray⟩), .slice (some ⟨gV, 0, none⟩) 1 1] ∧ Blk w' (gV) 39 #[.string ⟨#[99, 114, 111, 115, 115, 45, 111, 114, 105, 103, 105, 110, 45, 114, 101, 115, 111, 117, 114, 99, 101, 45, 112, 111, 108, 105, 99, 121]⟩, .string ⟨#[99, 114, 111, 115, 115, 45, 111, 114, 105, 103, 105, 110]⟩] ∧ Blk w' (gA) 41 #[.bool true, .bool false, .bool false] ∧ w.heap.size + 1 < gD ∧ gP ≠ gD)
  case first =>
    go_wp2_with (go_at_call 17; refine (h1.out _ (bw_)).mono ?_; rintro e w1 ⟨rfl, hb⟩; obtain ⟨hc, hfz⟩ := bcell hb; have hz := hb.size; (try simp at hz); (try have hz0 := lt_ hb w.heap.size); (try have hz1 := lt_ hb (w.heap.size + 1)); (try have hz2 := lt_ hb (w.heap.size + 2)); (try have hz3 := lt_ hb (w.heap.size + 3)); (try have hcA := fun o => hc w.heap.size o sz_); (try have hcB := fun o => hc (w.heap.size + 1) o sz_); (try (have i := cf_ hb gA; obtain ⟨hcGgA, hfGgA, hzGgA⟩ := i)); (try (have i := cf_ hb gB; obtain ⟨hcGgB, hfGgB, hzGgB⟩ := i)); (try (have i := cf_ hb gD; obtain ⟨hcGgD, hfGgD, hzGgD⟩ := i)); (try (have i := cf_ hb gV; obtain ⟨hcGgV, hfGgV, hzGgV⟩ := i)))
    go_meet
    case rel =>
      exact ⟨_, rfl, bw_, bk_, bk_, bk_, bk_, bk_, bk_, by first | omega | (simp; omega), by first | omega | (simp; omega)⟩
  case rest =>
  clear hw0 hwz hEl hEc hEf hHl hHc hHf hPl hPc hPf hDl hDc hDf hVl hVc hVf hBE hBH hBP hBD hBV hge hnP
  obtain ⟨gA, rfl, hw0, hBE, hBH, hBP, hBD, hBV, hBA, hge, hnP⟩ := hcut
  have hwz := hw0.size
  have hEl := hBE.lt
  have hEc := hBE.cell
  have hEf := hBE.frozen
  have hHl := hBH.lt
  have hHc := hBH.cell
  have hHf := hBH.frozen
  have hPl := hBP.lt
  have hPc := hBP.cell
  have hPf := hBP.frozen
  have hDl := hBD.lt
  have hDc := hBD.cell
  have hDf := hBD.frozen
  have hVl := hBV.lt
  have hVc := hBV.cell
  have hVf := hBV.frozen
  have hAl := hBA.lt
  have hAc := hBA.cell
  have hAf := hBA.frozen
  go_upto_region 9 with fail
  go_cut [16] from 17 (fun x16 w' => ∃ gB, x16 = .pointer (some ⟨gB, 0, none⟩) ∧ Below w.heap.size w w' ∧ Blk w' (w.heap.size) 23 #[.int .i64 ev, (Value.string ⟨(et).toArray⟩), .int .i64 er, (Value.string ⟨(eu).toArray⟩)] ∧ Blk w' (w.heap.size + 1) 31 #[(Value.string ⟨((u).scheme).toArray⟩), (Value.string ⟨(((u).host).name).toArray⟩), (Value.bool ((u).host).v4), (Value.int .u32 (((u).host).addr : Int)), (Value.int .i64 (u).port), (Value.string ⟨((u).path).toArray⟩), (Value.bool (u).hasQuery), (Value.string ⟨((u).query).toArray⟩), (Value.string ⟨((u).rest).toArray⟩), .slice A3 hl.length d3] ∧ Blk w' (gP) 35 #[(Value.bool (o).opaq), (Value.int .i64 (o).id), (Value.string ⟨((o).scheme).toArray⟩), (Value.string ⟨(((o).host).name).toArray⟩), (Value.bool ((o).host).v4), (Value.int .u32 (((o).host).addr : Int)), (Value.int .i64 (o).port)] ∧ Blk w' (gD) 31 #[(Value.string ⟨((u).scheme).toArray⟩), (Value.string ⟨(((u).host).name).toArray⟩), (Value.bool ((u).host).v4), (Value.int .u32 (((u).host).addr : Int)), (Value.int .i64 (u).port), (Value.string ⟨((u).path).toArray⟩), (Value.bool (u).hasQuery), (Value.string ⟨((u).query).toArray⟩), (Value.string ⟨((u).rest).toArray⟩), .slice (some ⟨gV, 0, none⟩) 1 1] ∧ Blk w' (gV) 39 #[.string ⟨#[99, 114, 111, 115, 115, 45, 111, 114, 105, 103, 105, 110, 45, 114, 101, 115, 111, 117, 114, 99, 101, 45, 112, 111, 108, 105, 99, 121]⟩, .string ⟨#[99, 114, 111, 115, 115, 45, 111, 114, 105, 103, 105, 110]⟩] ∧ Blk w' (gA) 41 #[.bool true, .bool false, .bool false] ∧ Blk w' (gB) 41 #[.bool true, .bool false, .bool false] ∧ w.heap.size + 1 < gD ∧ gP ≠ gD)
  case first =>
    go_wp2_with (go_at_call 17; refine (h2.out _ _ (bw_) (bk_)).mono ?_; rintro e w1 ⟨rfl, hb⟩; obtain ⟨hc, hfz⟩ := bcell hb; have hz := hb.size; (try simp at hz); (try have hz0 := lt_ hb w.heap.size); (try have hz1 := lt_ hb (w.heap.size + 1)); (try have hz2 := lt_ hb (w.heap.size + 2)); (try have hz3 := lt_ hb (w.heap.size + 3)); (try have hcA := fun o => hc w.heap.size o sz_); (try have hcB := fun o => hc (w.heap.size + 1) o sz_); (try (have i := cf_ hb gA; obtain ⟨hcGgA, hfGgA, hzGgA⟩ := i)); (try (have i := cf_ hb gB; obtain ⟨hcGgB, hfGgB, hzGgB⟩ := i)); (try (have i := cf_ hb gD; obtain ⟨hcGgD, hfGgD, hzGgD⟩ := i)); (try (have i := cf_ hb gV; obtain ⟨hcGgV, hfGgV, hzGgV⟩ := i)))
    go_meet
    case rel =>
      exact ⟨_, rfl, bw_, bk_, bk_, bk_, bk_, bk_, bk_, bk_, by first | omega | (simp; omega), by first | omega | (simp; omega)⟩
  case rest =>
  clear hw0 hwz hEl hEc hEf hHl hHc hHf hPl hPc hPf hDl hDc hDf hVl hVc hVf hAl hAc hAf hBE hBH hBP hBD hBV hBA hge hnP
  obtain ⟨gB, rfl, hw0, hBE, hBH, hBP, hBD, hBV, hBA, hBB, hge, hnP⟩ := hcut
  have hwz := hw0.size
  have hEl := hBE.lt
  have hEc := hBE.cell
  have hEf := hBE.frozen
  have hHl := hBH.lt
  have hHc := hBH.cell
  have hHf := hBH.frozen
  have hPl := hBP.lt
  have hPc := hBP.cell
  have hPf := hBP.frozen
  have hDl := hBD.lt
  have hDc := hBD.cell
  have hDf := hBD.frozen
  have hVl := hBV.lt
  have hVc := hBV.cell
  have hVf := hBV.frozen
  have hAl := hBA.lt
  have hAc := hBA.cell
  have hAf := hBA.frozen
  have hBl := hBB.lt
  have hBc := hBB.cell
  have hBf := hBB.frozen
  go_wp2_with fail
  go_ret
  exact ⟨rfl, bw_⟩
end Go.Proofs.YtbafofldgkigmaaGreatDoor
