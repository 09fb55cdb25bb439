/- corpgate.Check. -/
import Derived.Test.YtbafofldgkigmaaGreatDoorInner14
namespace Go.Proofs.YtbafofldgkigmaaGreatDoor
open Go.RowKit
attribute [local irreducible] Calls
set_option maxRecDepth 100000 in
set_option maxHeartbeats 4000000 in
theorem check_lets (o : Gl.Origin) (coep : Int) (nav creds : Bool) (u : Gl.URL) (A3 : Option Addr) (d3 : Nat) (hl : List Gl.Head) (vA : Option Addr) (vc : Nat) (S : List (List UInt8)) (g1 g2 g3 g4 g5 : Nat) (w : World) (hE : Env w) (ho : OFits o) (hH : Heads w (.slice A3 hl.length d3) hl) (hf : HopFit u hl) (hv : Sufs w (.slice vA S.length vc) S)
    (b1 : Blk w g1 35 #[(Value.bool (o).opaq), (Value.int .i64 (o).id), (Value.string ⟨((o).scheme).toArray⟩), (Value.string ⟨(((o).host).name).toArray⟩), (Value.bool ((o).host).v4), (Value.int .u32 (((o).host).addr : Int)), (Value.int .i64 (o).port)]) (b2 : Blk w g2 4 #[.bool nav]) (b3 : Blk w g3 31 #[(Value.string ⟨((u).scheme).toArray⟩), (Value.string ⟨(((u).host).name).toArray⟩), (Value.bool ((u).host).v4), (Value.int .u32 (((u).host).addr : Int)), (Value.int .i64 (u).port), (Value.string ⟨((u).path).toArray⟩), (Value.bool (u).hasQuery), (Value.string ⟨((u).query).toArray⟩), (Value.string ⟨((u).rest).toArray⟩), .slice A3 hl.length d3]) (b4 : Blk w g4 4 #[.bool creds]) (b5 : Blk w g5 32 #[.slice vA S.length vc]) :
    Calls Tryz.prog 49 #[.int .i64 coep, .pointer (some ⟨g1, 0, none⟩), .pointer (some ⟨g2, 0, none⟩), .pointer (some ⟨g3, 0, none⟩), .pointer (some ⟨g4, 0, none⟩), .pointer (some ⟨g5, 0, none⟩)] w (Ret w (.bool (Gl.gateC o (Gl.originOf u 0) (Gl.isNet u) (Gl.corp hl) (Gl.strictC coep creds nav) S))) := by
  have h1 := corp_inner o coep nav creds u (.slice A3 hl.length d3) hl (.slice vA S.length vc) S w hE ho hH hf hv
  generalize Gl.gateC o (Gl.originOf u 0) (Gl.isNet u) (Gl.corp hl) (Gl.strictC coep creds nav) S = R at *
  replace h1 := Lib.hid h1
  have l1 := b1.lt
  have c1 := b1.cell
  have f1 := b1.frozen
  have l2 := b2.lt
  have c2 := b2.cell
  have f2 := b2.frozen
  have l3 := b3.lt
  have c3 := b3.cell
  have f3 := b3.frozen
  have l4 := b4.lt
  have c4 := b4.cell
  have f4 := b4.frozen
  have l5 := b5.lt
  have c5 := b5.cell
  have f5 := b5.frozen
  clear hE ho hH hf hv b1 b2 b3 b4 b5
  go_enter Tryz.func49, Tryz.ntmps49
  go_wp2_with (go_at_call 21; refine (h1.out).mono ?_; rintro e w1 ⟨rfl, hb⟩; obtain ⟨hc, hfz⟩ := bcell hb; have hz := hb.size; (try simp at hz); (try have hz0 := lt_ hb w.heap.size); (try have hz1 := lt_ hb (w.heap.size + 1)); (try have hz2 := lt_ hb (w.heap.size + 2)); (try have hz3 := lt_ hb (w.heap.size + 3)); (try have hcA := fun o => hc w.heap.size o sz_); (try have hcB := fun o => hc (w.heap.size + 1) o sz_))
  go_ret
  exact ⟨rfl, bw_⟩
/-- A gate, out of what the policy lets under none, under the value, and under what is reported. -/
def Gl.gateV (g0 gv gr : Bool) : Value := if g0 then .agg #[.bool gv, .bool !gv, .bool !gr] else .agg #[.bool false, .bool false, .bool false]
def Gl.gate (o : Gl.Origin) (u : Gl.URL) (hl : List Gl.Head) (coep : Int) (creds nav : Bool) (S : List (List UInt8)) : Bool := Gl.gateC o (Gl.originOf u 0) (Gl.isNet u) (Gl.corp hl) (Gl.strictC coep creds nav) S
set_option maxRecDepth 100000 in
set_option maxHeartbeats 4000000 in
theorem corp_check (o : Gl.Origin) (ev er : Int) (et eu : List UInt8) (nav creds : Bool) (u : Gl.URL) (vh : Value) (hl : List Gl.Head) (v : Value) (S : List (List UInt8)) (w : World) (hE : Env w) (ho : OFits o) (hH : Heads w vh hl) (hf : HopFit u hl) (hv : Sufs w v S) :
    Calls Tryz.prog 17 #[(Value.agg #[(Value.bool (o).opaq), (Value.int .i64 (o).id), (Value.string ⟨((o).scheme).toArray⟩), (Value.string ⟨(((o).host).name).toArray⟩), (Value.bool ((o).host).v4), (Value.int .u32 (((o).host).addr : Int)), (Value.int .i64 (o).port)]), .agg #[.int .i64 ev, (Value.string ⟨(et).toArray⟩), .int .i64 er, (Value.string ⟨(eu).toArray⟩)], .bool nav, .agg #[(Value.string ⟨((u).scheme).toArray⟩), (Value.string ⟨(((u).host).name).toArray⟩), (Value.bool ((u).host).v4), (Value.int .u32 (((u).host).addr : Int)), (Value.int .i64 (u).port), (Value.string ⟨((u).path).toArray⟩), (Value.bool (u).hasQuery), (Value.string ⟨((u).query).toArray⟩), (Value.string ⟨((u).rest).toArray⟩), vh], .bool creds, v] w (Ret w (Gl.gateV (Gl.gate o u hl 0 creds nav S) (Gl.gate o u hl ev creds nav S) (Gl.gate o u hl er creds nav S))) := by
  obtain ⟨A3, d3, rfl⟩ := hH.form
  obtain ⟨vA, vc, rfl, _⟩ := id hv.strs
  have hlt : ∀ k W, Below w.heap.size w W → Blk W w.heap.size 35 #[(Value.bool (o).opaq), (Value.int .i64 (o).id), (Value.string ⟨((o).scheme).toArray⟩), (Value.string ⟨(((o).host).name).toArray⟩), (Value.bool ((o).host).v4), (Value.int .u32 (((o).host).addr : Int)), (Value.int .i64 (o).port)] → Blk W (w.heap.size + 2) 4 #[.bool nav] → Blk W (w.heap.size + 3) 31 #[(Value.string ⟨((u).scheme).toArray⟩), (Value.string ⟨(((u).host).name).toArray⟩), (Value.bool ((u).host).v4), (Value.int .u32 (((u).host).addr : Int)), (Value.int .i64 (u).port), (Value.string ⟨((u).path).toArray⟩), (Value.bool (u).hasQuery), (Value.string ⟨((u).query).toArray⟩), (Value.string ⟨((u).rest).toArray⟩), .slice A3 hl.length d3] → Blk W (w.heap.size + 4) 4 #[.bool creds] → Blk W (w.heap.size + 5) 32 #[.slice vA S.length vc] →
      Calls Tryz.prog 49 #[.int .i64 k, .pointer (some ⟨w.heap.size, 0, none⟩), .pointer (some ⟨w.heap.size + 2, 0, none⟩), .pointer (some ⟨w.heap.size + 3, 0, none⟩), .pointer (some ⟨w.heap.size + 4, 0, none⟩), .pointer (some ⟨w.heap.size + 5, 0, none⟩)] W (Ret W (.bool (Gl.gate o u hl k creds nav S))) := fun k W hW b1 b2 b3 b4 b5 =>
    check_lets o k nav creds u A3 d3 hl vA vc S _ _ _ _ _ W (hE.below hW) ho (hH.below hW) hf (hv.below hW) b1 b2 b3 b4 b5
  have h0 := hlt 0
  have h1 := hlt ev
  have h2 := hlt er
  generalize Gl.gate o u hl 0 creds nav S = g0 at *
  generalize Gl.gate o u hl ev creds nav S = g1 at *
  generalize Gl.gate o u hl er creds nav S = g2 at *
  replace h0 := Lib.hid h0
  replace h1 := Lib.hid h1
  replace h2 := Lib.hid h2
  clear hE ho hH hf hv hlt
  go_enter Tryz.func17, Tryz.ntmps17
  go_upto_region 1 with fail
  generalize hW0 : (((((((w.alloc (Obj.cells #[(Value.bool (o).opaq), (Value.int .i64 (o).id), (Value.string ⟨((o).scheme).toArray⟩), (Value.string ⟨(((o).host).name).toArray⟩), (Value.bool ((o).host).v4), (Value.int .u32 (((o).host).addr : Int)), (Value.int .i64 (o).port)] 35)).alloc (Obj.cells #[.int .i64 ev, (Value.string ⟨(et).toArray⟩), .int .i64 er, (Value.string ⟨(eu).toArray⟩)] 23)).alloc (Obj.cells #[.bool nav] 4)).alloc (Obj.cells #[(Value.string ⟨((u).scheme).toArray⟩), (Value.string ⟨(((u).host).name).toArray⟩), (Value.bool ((u).host).v4), (Value.int .u32 (((u).host).addr : Int)), (Value.int .i64 (u).port), (Value.string ⟨((u).path).toArray⟩), (Value.bool (u).hasQuery), (Value.string ⟨((u).query).toArray⟩), (Value.string ⟨((u).rest).toArray⟩), .slice A3 hl.length d3] 31)).alloc (Obj.cells #[.bool creds] 4)).alloc (Obj.cells #[.slice vA S.length vc] 32)).alloc (Obj.cells #[.bool false, .bool false, .bool false] 41)) = W0
  have hw0 : Below w.heap.size w W0 := by rw [← hW0]; (exact bw_)
  have hBO : Blk W0 (w.heap.size) 35 #[(Value.bool (o).opaq), (Value.int .i64 (o).id), (Value.string ⟨((o).scheme).toArray⟩), (Value.string ⟨(((o).host).name).toArray⟩), (Value.bool ((o).host).v4), (Value.int .u32 (((o).host).addr : Int)), (Value.int .i64 (o).port)] := by rw [← hW0]; exact (Blk.alloc (Blk.alloc (Blk.alloc (Blk.alloc (Blk.alloc (Blk.alloc (Blk.new _ _ _) _) _) _) _) _) _)
  have hBE : Blk W0 (w.heap.size + 1) 23 #[.int .i64 ev, (Value.string ⟨(et).toArray⟩), .int .i64 er, (Value.string ⟨(eu).toArray⟩)] := by rw [← hW0]; exact (Blk.alloc (Blk.alloc (Blk.alloc (Blk.alloc (Blk.alloc (by have := Blk.new (w.alloc (Obj.cells #[(Value.bool (o).opaq), (Value.int .i64 (o).id), (Value.string ⟨((o).scheme).toArray⟩), (Value.string ⟨(((o).host).name).toArray⟩), (Value.bool ((o).host).v4), (Value.int .u32 (((o).host).addr : Int)), (Value.int .i64 (o).port)] 35)) 23 #[.int .i64 ev, (Value.string ⟨(et).toArray⟩), .int .i64 er, (Value.string ⟨(eu).toArray⟩)]; simpa [World.size_alloc] using this) _) _) _) _) _)
  have hBN : Blk W0 (w.heap.size + 2) 4 #[.bool nav] := by rw [← hW0]; exact (Blk.alloc (Blk.alloc (Blk.alloc (Blk.alloc (by have := Blk.new ((w.alloc (Obj.cells #[(Value.bool (o).opaq), (Value.int .i64 (o).id), (Value.string ⟨((o).scheme).toArray⟩), (Value.string ⟨(((o).host).name).toArray⟩), (Value.bool ((o).host).v4), (Value.int .u32 (((o).host).addr : Int)), (Value.int .i64 (o).port)] 35)).alloc (Obj.cells #[.int .i64 ev, (Value.string ⟨(et).toArray⟩), .int .i64 er, (Value.string ⟨(eu).toArray⟩)] 23)) 4 #[.bool nav]; simpa [World.size_alloc] using this) _) _) _) _)
  have hBH : Blk W0 (w.heap.size + 3) 31 #[(Value.string ⟨((u).scheme).toArray⟩), (Value.string ⟨(((u).host).name).toArray⟩), (Value.bool ((u).host).v4), (Value.int .u32 (((u).host).addr : Int)), (Value.int .i64 (u).port), (Value.string ⟨((u).path).toArray⟩), (Value.bool (u).hasQuery), (Value.string ⟨((u).query).toArray⟩), (Value.string ⟨((u).rest).toArray⟩), .slice A3 hl.length d3] := by rw [← hW0]; exact (Blk.alloc (Blk.alloc (Blk.alloc (by have := Blk.new (((w.alloc (Obj.cells #[(Value.bool (o).opaq), (Value.int .i64 (o).id), (Value.string ⟨((o).scheme).toArray⟩), (Value.string ⟨(((o).host).name).toArray⟩), (Value.bool ((o).host).v4), (Value.int .u32 (((o).host).addr : Int)), (Value.int .i64 (o).port)] 35)).alloc (Obj.cells #[.int .i64 ev, (Value.string ⟨(et).toArray⟩), .int .i64 er, (Value.string ⟨(eu).toArray⟩)] 23)).alloc (Obj.cells #[.bool nav] 4)) 31 #[(Value.string ⟨((u).scheme).toArray⟩), (Value.string ⟨(((u).host).name).toArray⟩), (Value.bool ((u).host).v4), (Value.int .u32 (((u).host).addr : Int)), (Value.int .i64 (u).port), (Value.string ⟨((u).path).toArray⟩), (Value.bool (u).hasQuery), (Value.string ⟨((u).query).toArray⟩), (Value.string ⟨((u).rest).toArray⟩), .slice A3 hl.length d3]; simpa [World.size_alloc] using this) _) _) _)
  have hBC : Blk W0 (w.heap.size + 4) 4 #[.bool creds] := by rw [← hW0]; exact (Blk.alloc (Blk.alloc (by have := Blk.new ((((w.alloc (Obj.cells #[(Value.bool (o).opaq), (Value.int .i64 (o).id), (Value.string ⟨((o).scheme).toArray⟩), (Value.string ⟨(((o).host).name).toArray⟩), (Value.bool ((o).host).v4), (Value.int .u32 (((o).host).addr : Int)), (Value.int .i64 (o).port)] 35)).alloc (Obj.cells #[.int .i64 ev, (Value.string ⟨(et).toArray⟩), .int .i64 er, (Value.string ⟨(eu).toArray⟩)] 23)).alloc (Obj.cells #[.bool nav] 4)).alloc (Obj.cells #[(Value.string ⟨((u).scheme).toArray⟩), (Value.string ⟨(((u).host).name).toArray⟩), (Value.bool ((u).host).v4), (Value.int .u32 (((u).host).addr : Int)), (Value.int .i64 (u).port), (Value.string ⟨((u).path).toArray⟩), (Value.bool (u).hasQuery), (Value.string ⟨((u).query).toArray⟩), (Value.string ⟨((u).rest).toArray⟩), .slice A3 hl.length d3] 31)) 4 #[.bool creds]; simpa [World.size_alloc] using this) _) _)
  have hBS : Blk W0 (w.heap.size + 5) 32 #[.slice vA S.length vc] := by rw [← hW0]; exact (Blk.alloc (by have := Blk.new (((((w.alloc (Obj.cells #[(Value.bool (o).opaq), (Value.int .i64 (o).id), (Value.string ⟨((o).scheme).toArray⟩), (Value.string ⟨(((o).host).name).toArray⟩), (Value.bool ((o).host).v4), (Value.int .u32 (((o).host).addr : Int)), (Value.int .i64 (o).port)] 35)).alloc (Obj.cells #[.int .i64 ev, (Value.string ⟨(et).toArray⟩), .int .i64 er, (Value.string ⟨(eu).toArray⟩)] 23)).alloc (Obj.cells #[.bool nav] 4)).alloc (Obj.cells #[(Value.string ⟨((u).scheme).toArray⟩), (Value.string ⟨(((u).host).name).toArray⟩), (Value.bool ((u).host).v4), (Value.int .u32 (((u).host).addr : Int)), (Value.int .i64 (u).port), (Value.string ⟨((u).path).toArray⟩), (Value.bool (u).hasQuery), (Value.string ⟨((u).query).toArray⟩), (Value.string ⟨((u).rest).toArray⟩), .slice A3 hl.length d3] 31)).alloc (Obj.cells #[.bool creds] 4)) 32 #[.slice vA S.length vc]; simpa [World.size_alloc] using this) _)
  have hBG : Blk W0 (w.heap.size + 6) 41 #[.bool false, .bool false, .bool false] := by rw [← hW0]; exact (by have := Blk.new ((((((w.alloc (Obj.cells #[(Value.bool (o).opaq), (Value.int .i64 (o).id), (Value.string ⟨((o).scheme).toArray⟩), (Value.string ⟨(((o).host).name).toArray⟩), (Value.bool ((o).host).v4), (Value.int .u32 (((o).host).addr : Int)), (Value.int .i64 (o).port)] 35)).alloc (Obj.cells #[.int .i64 ev, (Value.string ⟨(et).toArray⟩), .int .i64 er, (Value.string ⟨(eu).toArray⟩)] 23)).alloc (Obj.cells #[.bool nav] 4)).alloc (Obj.cells #[(Value.string ⟨((u).scheme).toArray⟩), (Value.string ⟨(((u).host).name).toArray⟩), (Value.bool ((u).host).v4), (Value.int .u32 (((u).host).addr : Int)), (Value.int .i64 (u).port), (Value.string ⟨((u).path).toArray⟩), (Value.bool (u).hasQuery), (Value.string ⟨((u).query).toArray⟩), (Value.string ⟨((u).rest).toArray⟩), .slice A3 hl.length d3] 31)).alloc (Obj.cells #[.bool creds] 4)).alloc (Obj.cells #[.slice vA S.length vc] 32)) 41 #[.bool false, .bool false, .bool false]; simpa [World.size_alloc] using this)
  clear hW0
  have hwz := hw0.size
  have hOl := hBO.lt
  have hOc := hBO.cell
  have hOf := hBO.frozen
  have hEl := hBE.lt
  have hEc := hBE.cell
  have hEf := hBE.frozen
  have hNl := hBN.lt
  have hNc := hBN.cell
  have hNf := hBN.frozen
  have hHl := hBH.lt
  have hHc := hBH.cell
  have hHf := hBH.frozen
  have hCl := hBC.lt
  have hCc := hBC.cell
  have hCf := hBC.frozen
  have hSl := hBS.lt
  have hSc := hBS.cell
  have hSf := hBS.frozen
  have hGl := hBG.lt
  have hGc := hBG.cell
  have hGf := hBG.frozen
  cases g0
  · go_wp2_with (first | (go_at_call 49; refine (h0.out _ (bw_) (bk_) (bk_) (bk_) (bk_) (bk_)).mono ?_; rintro e w1 ⟨rfl, hb⟩; obtain ⟨hc, hfz⟩ := bcell hb; have hz := hb.size; (try simp at hz); (try have hz0 := lt_ hb w.heap.size); (try have hz1 := lt_ hb (w.heap.size + 1)); (try have hz2 := lt_ hb (w.heap.size + 2)); (try have hz3 := lt_ hb (w.heap.size + 3)); (try have hcA := fun o => hc w.heap.size o sz_); (try have hcB := fun o => hc (w.heap.size + 1) o sz_)))
    have hG1 : Blk w1 (w.heap.size + 1 + 1 + 1 + 1 + 1 + 1) 41 #[.bool false, .bool false, .bool false] := bk_
    have hG2 := ((hG1.set_ 0 (.bool false)).set_ 1 (.bool false)).set_ 2 (.bool false)
    have k0 := hG2.cell 0
    have k1 := hG2.cell 1
    have k2 := hG2.cell 2
    refine bodyPost_ret (v := .agg #[.bool false, .bool false, .bool false]) (by simp only [results, Tryz.results17]; go_simp) rfl ⟨rfl, ?_⟩
    (exact bw_)
  · go_upto_region 4 with (first | (go_at_call 49; refine (h0.out _ (bw_) (bk_) (bk_) (bk_) (bk_) (bk_)).mono ?_; rintro e w1 ⟨rfl, hb⟩; obtain ⟨hc, hfz⟩ := bcell hb; have hz := hb.size; (try simp at hz); (try have hz0 := lt_ hb w.heap.size); (try have hz1 := lt_ hb (w.heap.size + 1)); (try have hz2 := lt_ hb (w.heap.size + 2)); (try have hz3 := lt_ hb (w.heap.size + 3)); (try have hcA := fun o => hc w.heap.size o sz_); (try have hcB := fun o => hc (w.heap.size + 1) o sz_)))
    go_cut [14] from 15 (fun x14 w' => x14 = .bool g1 ∧ Below w.heap.size w w' ∧ Blk w' (w.heap.size) 35 #[(Value.bool (o).opaq), (Value.int .i64 (o).id), (Value.string ⟨((o).scheme).toArray⟩), (Value.string ⟨(((o).host).name).toArray⟩), (Value.bool ((o).host).v4), (Value.int .u32 (((o).host).addr : Int)), (Value.int .i64 (o).port)] ∧ Blk w' (w.heap.size + 1) 23 #[.int .i64 ev, (Value.string ⟨(et).toArray⟩), .int .i64 er, (Value.string ⟨(eu).toArray⟩)] ∧ Blk w' (w.heap.size + 2) 4 #[.bool nav] ∧ Blk w' (w.heap.size + 3) 31 #[(Value.string ⟨((u).scheme).toArray⟩), (Value.string ⟨(((u).host).name).toArray⟩), (Value.bool ((u).host).v4), (Value.int .u32 (((u).host).addr : Int)), (Value.int .i64 (u).port), (Value.string ⟨((u).path).toArray⟩), (Value.bool (u).hasQuery), (Value.string ⟨((u).query).toArray⟩), (Value.string ⟨((u).rest).toArray⟩), .slice A3 hl.length d3] ∧ Blk w' (w.heap.size + 4) 4 #[.bool creds] ∧ Blk w' (w.heap.size + 5) 32 #[.slice vA S.length vc] ∧ Blk w' (w.heap.size + 6) 41 #[.bool false, .bool false, .bool false])
    case first =>
      go_wp2_with (first | (go_at_call 49; refine (h1.out _ (bw_) (bk_) (bk_) (bk_) (bk_) (bk_)).mono ?_; rintro e w1 ⟨rfl, hb⟩; obtain ⟨hc, hfz⟩ := bcell hb; have hz := hb.size; (try simp at hz); (try have hz0 := lt_ hb w.heap.size); (try have hz1 := lt_ hb (w.heap.size + 1)); (try have hz2 := lt_ hb (w.heap.size + 2)); (try have hz3 := lt_ hb (w.heap.size + 3)); (try have hcA := fun o => hc w.heap.size o sz_); (try have hcB := fun o => hc (w.heap.size + 1) o sz_)))
      go_meet
      case rel => exact ⟨rfl, bw_, bk_, bk_, bk_, bk_, bk_, bk_, bk_⟩
    case rest =>
    clear hw0 hwz hOl hOc hOf hEl hEc hEf hNl hNc hNf hHl hHc hHf hCl hCc hCf hSl hSc hSf hGl hGc hGf hBO hBE hBN hBH hBC hBS hBG
    obtain ⟨rfl, hw0, hBO, hBE, hBN, hBH, hBC, hBS, hBG⟩ := hcut
    have hwz := hw0.size
    have hOl := hBO.lt
    have hOc := hBO.cell
    have hOf := hBO.frozen
    have hEl := hBE.lt
    have hEc := hBE.cell
    have hEf := hBE.frozen
    have hNl := hBN.lt
    have hNc := hBN.cell
    have hNf := hBN.frozen
    have hHl := hBH.lt
    have hHc := hBH.cell
    have hHf := hBH.frozen
    have hCl := hBC.lt
    have hCc := hBC.cell
    have hCf := hBC.frozen
    have hSl := hBS.lt
    have hSc := hBS.cell
    have hSf := hBS.frozen
    have hGl := hBG.lt
    have hGc := hBG.cell
    have hGf := hBG.frozen
    go_wp2_with (first | (go_at_call 49; refine (h2.out _ (bw_) (bk_) (bk_) (bk_) (bk_) (bk_)).mono ?_; rintro e w1 ⟨rfl, hb⟩; obtain ⟨hc, hfz⟩ := bcell hb; have hz := hb.size; (try simp at hz); (try have hz0 := lt_ hb w.heap.size); (try have hz1 := lt_ hb (w.heap.size + 1)); (try have hz2 := lt_ hb (w.heap.size + 2)); (try have hz3 := lt_ hb (w.heap.size + 3)); (try have hcA := fun o => hc w.heap.size o sz_); (try have hcB := fun o => hc (w.heap.size + 1) o sz_)))
    have hG1 : Blk w1 (w.heap.size + 1 + 1 + 1 + 1 + 1 + 1) 41 #[.bool false, .bool false, .bool false] := bk_
    have hG2 := ((hG1.set_ 0 (.bool g1)).set_ 1 (.bool !g1)).set_ 2 (.bool !g2)
    have k0 := hG2.cell 0
    have k1 := hG2.cell 1
    have k2 := hG2.cell 2
    refine bodyPost_ret (v := .agg #[.bool g1, .bool !g1, .bool !g2]) (by simp only [results, Tryz.results17]; go_simp) rfl ⟨rfl, ?_⟩
    (exact bw_)
end Go.Proofs.YtbafofldgkigmaaGreatDoor
