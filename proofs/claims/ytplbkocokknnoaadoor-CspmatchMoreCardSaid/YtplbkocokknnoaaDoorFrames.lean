/- cspmatch.Frames: may a document be framed by ancestors? -/
import Derived.Test.YtplbkocokknnoaaDoorAny
import Derived.Test.YtplbkocokknnoaaDoorSlots
namespace Go.Proofs.YtplbkocokknnoaaDoor
open Go.RowKit
attribute [local irreducible] Calls
set_option maxRecDepth 100000 in
set_option maxHeartbeats 1000000 in
theorem csp_out (v vb : Value) (has box : Bool) (L : List (List UInt8)) (o self : Gl.Origin) (gA gB : Nat) (w : World) (hE : Env w) (hv : Strs w w.heap.size v L) (hl : L.length ≤ 281474976710656) (hsh : ∀ s ∈ L, s.length ≤ 4294967280) (ha : o.host.addr < 4294967296) (hn : o.host.name.length ≤ 2147483647)
    (hp : Blk w gA 50 #[.bool has, v, .bool box, vb]) (hs : Blk w gB 35 #[(Value.bool (self).opaq), (Value.int .i64 (self).id), (Value.string ⟨((self).scheme).toArray⟩), (Value.string ⟨(((self).host).name).toArray⟩), (Value.bool ((self).host).v4), (Value.int .u32 (((self).host).addr : Int)), (Value.int .i64 (self).port)]) :
    Calls Tryd.prog 37 #[(Value.agg #[(Value.bool (o).opaq), (Value.int .i64 (o).id), (Value.string ⟨((o).scheme).toArray⟩), (Value.string ⟨(((o).host).name).toArray⟩), (Value.bool ((o).host).v4), (Value.int .u32 (((o).host).addr : Int)), (Value.int .i64 (o).port)]), .pointer (some ⟨gA, 0, none⟩), .pointer (some ⟨gB, 0, none⟩)] w (Ret w (.bool (!Gl.anyS L o self))) := by
  have hany := fun (W : World) (hW : Below w.heap.size w W) => csp_any v L o self W (hE.below hW) ((hv.keep hW).more hW.size) hl hsh ha hn
  obtain ⟨A, c, rfl, _⟩ := hv
  generalize Gl.anyS L o self = R at *
  have l1 := hp.lt
  have c1 := hp.cell
  have f1 := hp.frozen
  have l2 := hs.lt
  have c2 := hs.cell
  have f2 := hs.frozen
  clear hp hs hsh
  replace hany := Lib.hid hany
  go_enter Tryd.func37, Tryd.ntmps37
  go_wp2_with (go_at_call 35; refine ( hany.out _ (by (repeat' first | (with_reducible exact Below.refl _ _) | (with_reducible refine Below.setCell ?_ (by first | omega | (simp; done) | (simp; omega)) _) | (with_reducible refine Below.alloc ?_ (by first | omega | (simp; done) | (simp; omega)) _) | refine below_drewN ?_ _ | refine Below.drew ?_ | (refine below_thru (by assumption) ?_ (by first | omega | (simp; done) | (simp; omega))) | exact Below.refl _ _))).mono ?_; rintro e w1 ⟨rfl, hb⟩; obtain ⟨hc, hfz⟩ := bcell hb; have hz := hb.size; (try simp at hz); (try have hz0 : w.heap.size < w1.heap.size := by omega); (try have hz1 : w.heap.size + 1 < w1.heap.size := by omega); (try have hz2 : w.heap.size + 2 < w1.heap.size := by omega); (try have hz3 : w.heap.size + 3 < w1.heap.size := by omega); (try have hcA := fun o => hc w.heap.size o (by first | omega | (simp; omega))); (try have hcB := fun o => hc (w.heap.size + 1) o (by first | omega | (simp; omega))); (try have hcGgA := fun o => hc gA o (by first | omega | (simp; omega))); (try have hfGgA := fun o => hfz gA o (by first | omega | (simp; omega))); (try have hzGgA : gA < w1.heap.size := by omega); (try have hcGgB := fun o => hc gB o (by first | omega | (simp; omega))); (try have hfGgB := fun o => hfz gB o (by first | omega | (simp; omega))); (try have hzGgB : gB < w1.heap.size := by omega))
  go_ret
  exact ⟨rfl, by (repeat' first | (with_reducible exact Below.refl _ _) | (with_reducible refine Below.setCell ?_ (by first | omega | (simp; done) | (simp; omega)) _) | (with_reducible refine Below.alloc ?_ (by first | omega | (simp; done) | (simp; omega)) _) | refine below_drewN ?_ _ | refine Below.drew ?_ | (refine below_thru (by assumption) ?_ (by first | omega | (simp; done) | (simp; omega))) | exact Below.refl _ _)⟩
set_option maxRecDepth 100000 in
set_option maxHeartbeats 1000000 in
theorem index_out (f : Gl.Origin → Bool) (va : Value) (As : List Gl.Origin) (p1 p2 : Addr) (w : World) (hv : Origs w va As) (hl : As.length ≤ 281474976710656) (hF : ∀ o ∈ As, ∀ W, Below w.heap.size w W → Calls Tryd.prog 37 #[(Value.agg #[(Value.bool (o).opaq), (Value.int .i64 (o).id), (Value.string ⟨((o).scheme).toArray⟩), (Value.string ⟨(((o).host).name).toArray⟩), (Value.bool ((o).host).v4), (Value.int .u32 (((o).host).addr : Int)), (Value.int .i64 (o).port)]), .pointer (some p1), .pointer (some p2)] W (Ret W (.bool (!f o)))) :
    Calls Tryd.prog 55 #[va, .func (.func 37) #[] #[.pointer (some p1), .pointer (some p2)]] w (fun e w' => ∃ n : Int, (-1 ≤ n ∧ decide (0 ≤ n) = As.any (fun o => !f o)) ∧ e = .returned (.int .i64 n) ∧ Below w.heap.size w w') := by
  generalize hR : As.any (fun o => !f o) = R
  replace hR := Lib.hid hR
  replace hF := Lib.hid hF
  have H := Lib.hid hv
  obtain ⟨A, c, rfl⟩ := hv.form
  clear hv
  go_enter Tryd.func55, Tryd.ntmps55
  go_wp2
  go_loopw [4, 8] (fun _ i wr => ∃ k : Nat, k ≤ As.length ∧ i = .int .i64 k ∧ Below w.heap.size w wr ∧ Hid (R = (As.drop k).any (fun o => !f o))) (fun _ i _ => As.length - (intOf i).toNat)
  case atStart => exact ⟨0, Nat.zero_le _, rfl, Below.refl _ _, Lib.hid (by rw [← hR.out]; rfl)⟩
  case round =>
    obtain ⟨k, hk, rfl, hw0, hr⟩ := hrel
    by_cases hlt : k < As.length
    · rw [drop_consX hlt, List.any_cons] at hr
      obtain ⟨sb, so, sd, he, hsB, hcell⟩ := H.out.cells k hlt
      injection he with he1 he2 he3
      subst he1 he3
      have hbad := hF.out _ (List.getElem_mem hlt) wr hw0
      have hcw : ∀ i, i < 7 → wr.cell? ⟨sb, so + k * 7 + i, none⟩ = (ocells As[k])[i]? := fun i hi => (hw0.cell (p := ⟨sb, so + k * 7 + i, none⟩) hsB).trans (hcell i hi)
      have hsz := hw0.size
      generalize As[k] = x at *
      have c0 := hcw 0 (by decide)
      have c1 := hcw 1 (by decide)
      have c2 := hcw 2 (by decide)
      have c3 := hcw 3 (by decide)
      have c4 := hcw 4 (by decide)
      have c5 := hcw 5 (by decide)
      have c6 := hcw 6 (by decide)
      simp only [Nat.add_zero, ocells, List.getElem?_toArray, List.getElem?_cons_zero, List.getElem?_cons_succ] at c0 c1 c2 c3 c4 c5 c6
      clear hcell hcw
      cases hx : f x
      all_goals
        rw [hx] at hbad hr
        replace hbad := Lib.hid hbad
        replace hx := Lib.hid hx
        go_wp2_with (go_at_call 37; refine ( hbad.out).mono ?_; rintro e w1 ⟨rfl, hb⟩; obtain ⟨hc, hfz⟩ := bcell hb; have hz := hb.size; (try simp at hz); (try have hz0 : w.heap.size < w1.heap.size := by omega); (try have hz1 : w.heap.size + 1 < w1.heap.size := by omega); (try have hz2 : w.heap.size + 2 < w1.heap.size := by omega); (try have hz3 : w.heap.size + 3 < w1.heap.size := by omega); (try have hcA := fun o => hc w.heap.size o (by first | omega | (simp; omega))); (try have hcB := fun o => hc (w.heap.size + 1) o (by first | omega | (simp; omega))))
      · go_ret
        exact ⟨(k : Int), ⟨by omega, by rw [hr.out]; simp⟩, rfl, hw0.trans (Below.mono (by (repeat' first | (with_reducible exact Below.refl _ _) | (with_reducible refine Below.setCell ?_ (by first | omega | (simp; done) | (simp; omega)) _) | (with_reducible refine Below.alloc ?_ (by first | omega | (simp; done) | (simp; omega)) _) | refine below_drewN ?_ _ | refine Below.drew ?_ | (refine below_thru (by assumption) ?_ (by first | omega | (simp; done) | (simp; omega))) | exact Below.refl _ _)) hsz)⟩
      · go_roundw
        case rel => exact ⟨k + 1, by omega, by go_num, hw0.trans (Below.mono (by (repeat' first | (with_reducible exact Below.refl _ _) | (with_reducible refine Below.setCell ?_ (by first | omega | (simp; done) | (simp; omega)) _) | (with_reducible refine Below.alloc ?_ (by first | omega | (simp; done) | (simp; omega)) _) | refine below_drewN ?_ _ | refine Below.drew ?_ | (refine below_thru (by assumption) ?_ (by first | omega | (simp; done) | (simp; omega))) | exact Below.refl _ _)) hsz), Lib.hid (by rw [hr.out]; rfl)⟩
        case measure => simp [intOf]; omega
    · rw [List.drop_eq_nil_of_le (by omega)] at hr
      go_wp2
      go_ret
      exact ⟨-1, ⟨by omega, by rw [hr.out]; rfl⟩, rfl, hw0⟩
set_option maxRecDepth 100000 in
theorem contains_out (f : Gl.Origin → Bool) (va : Value) (As : List Gl.Origin) (p1 p2 : Addr) (w : World) (hv : Origs w va As) (hl : As.length ≤ 281474976710656) (hF : ∀ o ∈ As, ∀ W, Below w.heap.size w W → Calls Tryd.prog 37 #[(Value.agg #[(Value.bool (o).opaq), (Value.int .i64 (o).id), (Value.string ⟨((o).scheme).toArray⟩), (Value.string ⟨(((o).host).name).toArray⟩), (Value.bool ((o).host).v4), (Value.int .u32 (((o).host).addr : Int)), (Value.int .i64 (o).port)]), .pointer (some p1), .pointer (some p2)] W (Ret W (.bool (!f o)))) :
    Calls Tryd.prog 38 #[va, .func (.func 37) #[] #[.pointer (some p1), .pointer (some p2)]] w (Ret w (.bool (As.any (fun o => !f o)))) := by
  have hi := Lib.hid (index_out f va As p1 p2 w hv hl hF)
  generalize As.any (fun o => !f o) = R at *
  obtain ⟨A, c, rfl⟩ := hv.form
  clear hF hv
  go_enter Tryd.func38, Tryd.ntmps38
  go_wp2_with (go_at_call 55; refine hi.out.mono ?_; rintro e w1 ⟨n, ⟨hn, hd⟩, rfl, hb⟩)
  go_ret
  exact ⟨by rw [← hd]; rfl, hb⟩
/-- Origins whose hosts may be. -/
def OFit (o : Gl.Origin) : Prop := o.host.addr < 4294967296 ∧ o.host.name.length ≤ 2147483647
set_option maxRecDepth 100000 in
set_option maxHeartbeats 1000000 in
theorem csp_frames (has box : Bool) (v vb va : Value) (L : List (List UInt8)) (As : List Gl.Origin) (self : Gl.Origin) (w : World) (hE : Env w) (hv : Strs w w.heap.size v L) (hl : L.length ≤ 281474976710656) (hsh : ∀ s ∈ L, s.length ≤ 4294967280) (hA : Origs w va As) (hAl : As.length ≤ 281474976710656) (hAo : ∀ a ∈ As, OFit a) :
    Calls Tryd.prog 18 #[.agg #[.bool has, v, .bool box, vb], (Value.agg #[(Value.bool (self).opaq), (Value.int .i64 (self).id), (Value.string ⟨((self).scheme).toArray⟩), (Value.string ⟨(((self).host).name).toArray⟩), (Value.bool ((self).host).v4), (Value.int .u32 (((self).host).addr : Int)), (Value.int .i64 (self).port)]), va] w (Ret w (.bool (Gl.framesS has L self As))) := by
  have hR : Gl.framesS has L self As = (!has || As.all (fun a => Gl.anyS L a self)) := rfl
  have hcn := fun (W : World) (hW : Below w.heap.size w W) (h1 : Blk W w.heap.size 50 #[.bool has, v, .bool box, vb]) (h2 : Blk W (w.heap.size + 1) 35 #[(Value.bool (self).opaq), (Value.int .i64 (self).id), (Value.string ⟨((self).scheme).toArray⟩), (Value.string ⟨(((self).host).name).toArray⟩), (Value.bool ((self).host).v4), (Value.int .u32 (((self).host).addr : Int)), (Value.int .i64 (self).port)]) =>
    contains_out (fun a => Gl.anyS L a self) va As ⟨w.heap.size, 0, none⟩ ⟨w.heap.size + 1, 0, none⟩ W (hA.below hW) hAl (fun o ho V hV => csp_out v vb has box L o self _ _ V (hE.below (hW.trans (hV.mono hW.size))) ((hv.keep (hW.trans (hV.mono hW.size))).more (Nat.le_trans hW.size hV.size)) hl hsh (hAo o ho).1 (hAo o ho).2 (h1.below hV h1.lt) (h2.below hV h2.lt))
  rw [← List.not_all_eq_any_not] at hcn
  generalize Gl.framesS has L self As = R at *
  generalize As.all (fun a => Gl.anyS L a self) = q at *
  obtain ⟨A, c, rfl⟩ := hA.form
  clear hA hsh hAo hv
  replace hcn := Lib.hid hcn
  cases has
  · have hf : Hid (R = true) := Lib.hid (by rw [hR]; rfl)
    clear hR
    go_enter Tryd.func18, Tryd.ntmps18
    go_wp2_with fail
    go_ret
    exact ⟨by rw [hf.out] <;> rfl, by (repeat' first | (with_reducible exact Below.refl _ _) | (with_reducible refine Below.setCell ?_ (by first | omega | (simp; done) | (simp; omega)) _) | (with_reducible refine Below.alloc ?_ (by first | omega | (simp; done) | (simp; omega)) _) | refine below_drewN ?_ _ | refine Below.drew ?_ | (refine below_thru (by assumption) ?_ (by first | omega | (simp; done) | (simp; omega))) | exact Below.refl _ _)⟩
  · have hf : Hid (R = q) := Lib.hid (by rw [hR]; rfl)
    clear hR
    go_enter Tryd.func18, Tryd.ntmps18
    go_wp2_with fail
    generalize hW0 : ((w.alloc (Obj.cells #[.bool true, v, .bool box, vb] 50)).alloc (Obj.cells #[(Value.bool (self).opaq), (Value.int .i64 (self).id), (Value.string ⟨((self).scheme).toArray⟩), (Value.string ⟨(((self).host).name).toArray⟩), (Value.bool ((self).host).v4), (Value.int .u32 (((self).host).addr : Int)), (Value.int .i64 (self).port)] 35)) = W0
    have hw0 : Below w.heap.size w W0 := by rw [← hW0]; (repeat' first | (with_reducible exact Below.refl _ _) | (with_reducible refine Below.setCell ?_ (by first | omega | (simp; done) | (simp; omega)) _) | (with_reducible refine Below.alloc ?_ (by first | omega | (simp; done) | (simp; omega)) _) | refine below_drewN ?_ _ | refine Below.drew ?_ | (refine below_thru (by assumption) ?_ (by first | omega | (simp; done) | (simp; omega))) | exact Below.refl _ _)
    have hBA : Blk W0 (w.heap.size) 50 #[.bool true, v, .bool box, vb] := by rw [← hW0]; exact (Blk.alloc (Blk.new _ _ _) _)
    have hBB : Blk W0 (w.heap.size + 1) 35 #[(Value.bool (self).opaq), (Value.int .i64 (self).id), (Value.string ⟨((self).scheme).toArray⟩), (Value.string ⟨(((self).host).name).toArray⟩), (Value.bool ((self).host).v4), (Value.int .u32 (((self).host).addr : Int)), (Value.int .i64 (self).port)] := by rw [← hW0]; exact (by have := Blk.new (w.alloc (Obj.cells #[.bool true, v, .bool box, vb] 50)) 35 #[(Value.bool (self).opaq), (Value.int .i64 (self).id), (Value.string ⟨((self).scheme).toArray⟩), (Value.string ⟨(((self).host).name).toArray⟩), (Value.bool ((self).host).v4), (Value.int .u32 (((self).host).addr : Int)), (Value.int .i64 (self).port)]; simpa [World.size_alloc] using this)
    clear hW0
    refine (hcn.out _ hw0 hBA hBB).mono ?_
    rintro e w1 ⟨rfl, hb⟩
    go_wp2_with fail
    go_ret
    exact ⟨by rw [hf.out] <;> simp, hw0.trans (hb.mono hw0.size)⟩
end Go.Proofs.YtplbkocokknnoaaDoor
