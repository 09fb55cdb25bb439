/- embed.Xfo: frame options. -/
import Derived.Test.YtkfoogmncokjnaaDoorFrames
import Derived.Test.YtkfoogmncokjnaaDoorEmbed
namespace Go.Proofs.YtkfoogmncokjnaaDoor
open Go.RowKit
attribute [local irreducible] Calls
def Gl.xfo (x : Int) (o : Gl.Origin) (As : List Gl.Origin) : Bool := if x = 1 then decide (As = []) else if x = 2 then As.all (fun a => Gl.originSame o a) else true
set_option maxRecDepth 100000 in
set_option maxHeartbeats 1000000 in
theorem embed_xfo_other (x : Int) (o a : Gl.Origin) (g1 g2 : Nat) (w : World) (h1 : Blk w g1 3 #[.int .i64 x]) (h2 : Blk w g2 34 #[(Value.bool (o).opaq), (Value.int .i64 (o).id), (Value.string ⟨((o).scheme).toArray⟩), (Value.string ⟨(((o).host).name).toArray⟩), (Value.bool ((o).host).v4), (Value.int .u32 (((o).host).addr : Int)), (Value.int .i64 (o).port)]) :
    Calls Tryd.prog 15 #[(Value.agg #[(Value.bool (a).opaq), (Value.int .i64 (a).id), (Value.string ⟨((a).scheme).toArray⟩), (Value.string ⟨(((a).host).name).toArray⟩), (Value.bool ((a).host).v4), (Value.int .u32 (((a).host).addr : Int)), (Value.int .i64 (a).port)]), .pointer (some ⟨g1, 0, none⟩), .pointer (some ⟨g2, 0, none⟩)] w (Ret w (.bool (!(decide (x ≠ 1) && Gl.originSame o a)))) := by
  have hs := fun W => origin_same o a W
  generalize Gl.originSame o a = q at *
  replace hs := Lib.hid hs
  have hc1 := h1.cell
  have hl1 := h1.lt
  have hc2 := h2.cell
  have hl2 := h2.lt
  by_cases hx : x = 1
  · subst hx
    go_enter Tryd.func15, Tryd.ntmps15
    go_wp2_with (go_at_call 9; refine ( hs.out _).mono ?_; rintro e w1 ⟨rfl, hb⟩; obtain ⟨hc, hfz⟩ := bcell hb; have hz := hb.size; (try simp at hz); (try have hz0 : w.heap.size < w1.heap.size := by omega); (try have hz1 : w.heap.size + 1 < w1.heap.size := by omega); (try have hz2 : w.heap.size + 2 < w1.heap.size := by omega); (try have hz3 : w.heap.size + 3 < w1.heap.size := by omega); (try have hcA := fun o => hc w.heap.size o (by first | omega | (simp; omega))); (try have hcB := fun o => hc (w.heap.size + 1) o (by first | omega | (simp; omega))))
    go_ret
    exact ⟨rfl, by (repeat' first | (with_reducible exact Below.refl _ _) | (with_reducible refine Below.setCell ?_ (by first | omega | (simp; done) | (simp; omega)) _) | (with_reducible refine Below.alloc ?_ (by first | omega | (simp; done) | (simp; omega)) _) | refine below_drewN ?_ _ | refine Below.drew ?_ | (refine below_thru (by assumption) ?_ (by first | omega | (simp; done) | (simp; omega))) | exact Below.refl _ _)⟩
  · go_enter Tryd.func15, Tryd.ntmps15
    go_wp2_with (go_at_call 9; refine ( hs.out _).mono ?_; rintro e w1 ⟨rfl, hb⟩; obtain ⟨hc, hfz⟩ := bcell hb; have hz := hb.size; (try simp at hz); (try have hz0 : w.heap.size < w1.heap.size := by omega); (try have hz1 : w.heap.size + 1 < w1.heap.size := by omega); (try have hz2 : w.heap.size + 2 < w1.heap.size := by omega); (try have hz3 : w.heap.size + 3 < w1.heap.size := by omega); (try have hcA := fun o => hc w.heap.size o (by first | omega | (simp; omega))); (try have hcB := fun o => hc (w.heap.size + 1) o (by first | omega | (simp; omega))))
    all_goals go_ret
    all_goals exact ⟨by simp [hx], by (repeat' first | (with_reducible exact Below.refl _ _) | (with_reducible refine Below.setCell ?_ (by first | omega | (simp; done) | (simp; omega)) _) | (with_reducible refine Below.alloc ?_ (by first | omega | (simp; done) | (simp; omega)) _) | refine below_drewN ?_ _ | refine Below.drew ?_ | (refine below_thru (by assumption) ?_ (by first | omega | (simp; done) | (simp; omega))) | exact Below.refl _ _)⟩
set_option maxRecDepth 100000 in
set_option maxHeartbeats 1000000 in
theorem index_other (f : Gl.Origin → Bool) (va : Value) (As : List Gl.Origin) (p1 p2 : Addr) (w : World) (hv : Origs w va As) (hl : As.length ≤ 281474976710656) (hF : ∀ o ∈ As, ∀ W, Below w.heap.size w W → Calls Tryd.prog 15 #[(Value.agg #[(Value.bool (o).opaq), (Value.int .i64 (o).id), (Value.string ⟨((o).scheme).toArray⟩), (Value.string ⟨(((o).host).name).toArray⟩), (Value.bool ((o).host).v4), (Value.int .u32 (((o).host).addr : Int)), (Value.int .i64 (o).port)]), .pointer (some p1), .pointer (some p2)] W (Ret W (.bool (!f o)))) :
    Calls Tryd.prog 20 #[va, .func (.func 15) #[] #[.pointer (some p1), .pointer (some p2)]] w (fun e w' => ∃ n : Int, (-1 ≤ n ∧ decide (0 ≤ n) = As.any (fun o => !f o)) ∧ e = .returned (.int .i64 n) ∧ Below w.heap.size w w') := by
  generalize hR : As.any (fun o => !f o) = R
  replace hR := Lib.hid hR
  replace hF := Lib.hid hF
  have H := Lib.hid hv
  obtain ⟨A, c, rfl⟩ := hv.form
  clear hv
  go_enter Tryd.func20, Tryd.ntmps20
  go_wp2
  go_loopw [4, 8] (fun _ i wr => ∃ k : Nat, k ≤ As.length ∧ i = .int .i64 k ∧ Below w.heap.size w wr ∧ Hid (R = (As.drop k).any (fun o => !f o))) (fun _ i _ => As.length - (intOf i).toNat)
  case atStart => exact ⟨0, Nat.zero_le _, rfl, Below.refl _ _, Lib.hid (by rw [← hR.out]; rfl)⟩
  case round =>
    obtain ⟨k, hk, rfl, hw0, hr⟩ := hrel
    by_cases hlt : k < As.length
    · rw [drop_consX hlt, List.any_cons] at hr
      obtain ⟨sb, so, sd, he, hsB, hcell⟩ := H.out.cells k hlt
      injection he with he1 he2 he3
      subst he1 he3
      have hbad := hF.out _ (List.getElem_mem hlt) wr hw0
      have hcw : ∀ i, i < 7 → wr.cell? ⟨sb, so + k * 7 + i, none⟩ = (ocells As[k])[i]? := fun i hi => (hw0.cell (p := ⟨sb, so + k * 7 + i, none⟩) hsB).trans (hcell i hi)
      have hsz := hw0.size
      generalize As[k] = x at *
      have c0 := hcw 0 (by decide)
      have c1 := hcw 1 (by decide)
      have c2 := hcw 2 (by decide)
      have c3 := hcw 3 (by decide)
      have c4 := hcw 4 (by decide)
      have c5 := hcw 5 (by decide)
      have c6 := hcw 6 (by decide)
      simp only [Nat.add_zero, ocells, List.getElem?_toArray, List.getElem?_cons_zero, List.getElem?_cons_succ] at c0 c1 c2 c3 c4 c5 c6
      clear hcell hcw
      cases hx : f x
      all_goals
        rw [hx] at hbad hr
        replace hbad := Lib.hid hbad
        replace hx := Lib.hid hx
        go_wp2_with (go_at_call 15; refine ( hbad.out).mono ?_; rintro e w1 ⟨rfl, hb⟩; obtain ⟨hc, hfz⟩ := bcell hb; have hz := hb.size; (try simp at hz); (try have hz0 : w.heap.size < w1.heap.size := by omega); (try have hz1 : w.heap.size + 1 < w1.heap.size := by omega); (try have hz2 : w.heap.size + 2 < w1.heap.size := by omega); (try have hz3 : w.heap.size + 3 < w1.heap.size := by omega); (try have hcA := fun o => hc w.heap.size o (by first | omega | (simp; omega))); (try have hcB := fun o => hc (w.heap.size + 1) o (by first | omega | (simp; omega))))
      · go_ret
        exact ⟨(k : Int), ⟨by omega, by rw [hr.out]; simp⟩, rfl, hw0.trans (Below.mono (by (repeat' first | (with_reducible exact Below.refl _ _) | (with_reducible refine Below.setCell ?_ (by first | omega | (simp; done) | (simp; omega)) _) | (with_reducible refine Below.alloc ?_ (by first | omega | (simp; done) | (simp; omega)) _) | refine below_drewN ?_ _ | refine Below.drew ?_ | (refine below_thru (by assumption) ?_ (by first | omega | (simp; done) | (simp; omega))) | exact Below.refl _ _)) hsz)⟩
      · go_roundw
        case rel => exact ⟨k + 1, by omega, by go_num, hw0.trans (Below.mono (by (repeat' first | (with_reducible exact Below.refl _ _) | (with_reducible refine Below.setCell ?_ (by first | omega | (simp; done) | (simp; omega)) _) | (with_reducible refine Below.alloc ?_ (by first | omega | (simp; done) | (simp; omega)) _) | refine below_drewN ?_ _ | refine Below.drew ?_ | (refine below_thru (by assumption) ?_ (by first | omega | (simp; done) | (simp; omega))) | exact Below.refl _ _)) hsz), Lib.hid (by rw [hr.out]; rfl)⟩
        case measure => simp [intOf]; omega
    · rw [List.drop_eq_nil_of_le (by omega)] at hr
      go_wp2
      go_ret
      exact ⟨-1, ⟨by omega, by rw [hr.out]; rfl⟩, rfl, hw0⟩
set_option maxRecDepth 100000 in
theorem contains_other (f : Gl.Origin → Bool) (va : Value) (As : List Gl.Origin) (p1 p2 : Addr) (w : World) (hv : Origs w va As) (hl : As.length ≤ 281474976710656) (hF : ∀ o ∈ As, ∀ W, Below w.heap.size w W → Calls Tryd.prog 15 #[(Value.agg #[(Value.bool (o).opaq), (Value.int .i64 (o).id), (Value.string ⟨((o).scheme).toArray⟩), (Value.string ⟨(((o).host).name).toArray⟩), (Value.bool ((o).host).v4), (Value.int .u32 (((o).host).addr : Int)), (Value.int .i64 (o).port)]), .pointer (some p1), .pointer (some p2)] W (Ret W (.bool (!f o)))) :
    Calls Tryd.prog 16 #[va, .func (.func 15) #[] #[.pointer (some p1), .pointer (some p2)]] w (Ret w (.bool (As.any (fun o => !f o)))) := by
  have hi := Lib.hid (index_other f va As p1 p2 w hv hl hF)
  generalize As.any (fun o => !f o) = R at *
  obtain ⟨A, c, rfl⟩ := hv.form
  clear hF hv
  go_enter Tryd.func16, Tryd.ntmps16
  go_wp2_with (go_at_call 20; refine hi.out.mono ?_; rintro e w1 ⟨n, ⟨hn, hd⟩, rfl, hb⟩)
  go_ret
  exact ⟨by rw [← hd]; rfl, hb⟩
theorem xfo_any (x : Int) (o : Gl.Origin) (As : List Gl.Origin) (hx : x = 1 ∨ x = 2) : (!(As.any (fun a => !(decide (x ≠ 1) && Gl.originSame o a)))) = Gl.xfo x o As := by
  rw [List.not_any_eq_all_not]
  unfold Gl.xfo
  rcases hx with rfl | rfl
  · cases As <;> simp
  · simp
set_option maxRecDepth 100000 in
set_option maxHeartbeats 1000000 in
theorem embed_xfo (x : Int) (o : Gl.Origin) (va : Value) (As : List Gl.Origin) (w : World) (hA : Origs w va As) (hAl : As.length ≤ 281474976710656) :
    Calls Tryd.prog 10 #[.int .i64 x, (Value.agg #[(Value.bool (o).opaq), (Value.int .i64 (o).id), (Value.string ⟨((o).scheme).toArray⟩), (Value.string ⟨(((o).host).name).toArray⟩), (Value.bool ((o).host).v4), (Value.int .u32 (((o).host).addr : Int)), (Value.int .i64 (o).port)]), va] w (Ret w (.bool (Gl.xfo x o As))) := by
  have hcn := fun (W : World) (hW : Below w.heap.size w W) (h1 : Blk W (w.heap.size) 3 #[.int .i64 x]) (h2 : Blk W (w.heap.size + 1) 34 #[(Value.bool (o).opaq), (Value.int .i64 (o).id), (Value.string ⟨((o).scheme).toArray⟩), (Value.string ⟨(((o).host).name).toArray⟩), (Value.bool ((o).host).v4), (Value.int .u32 (((o).host).addr : Int)), (Value.int .i64 (o).port)]) =>
    contains_other (fun a => decide (x ≠ 1) && Gl.originSame o a) va As ⟨w.heap.size, 0, none⟩ ⟨w.heap.size + 1, 0, none⟩ W (hA.below hW) hAl (fun a _ V hV => embed_xfo_other x o a _ _ V (h1.below hV h1.lt) (h2.below hV h2.lt))
  have hq := xfo_any x o As
  have hn : x ≠ 1 → x ≠ 2 → Gl.xfo x o As = true := fun h1 h2 => by unfold Gl.xfo; rw [if_neg h1, if_neg h2]
  generalize As.any (fun a => !(decide (x ≠ 1) && Gl.originSame o a)) = q at *
  generalize Gl.xfo x o As = R at *
  obtain ⟨A, c, rfl⟩ := hA.form
  clear hA
  replace hcn := Lib.hid hcn
  by_cases hx : x = 1 ∨ x = 2
  · have hf := Lib.hid (hq hx)
    clear hq hn
    rcases hx with rfl | rfl
    · go_enter Tryd.func10, Tryd.ntmps10
      go_wp2_with fail
      generalize hW0 : ((w.alloc (Obj.cells #[.int .i64 1] 3)).alloc (Obj.cells #[(Value.bool (o).opaq), (Value.int .i64 (o).id), (Value.string ⟨((o).scheme).toArray⟩), (Value.string ⟨(((o).host).name).toArray⟩), (Value.bool ((o).host).v4), (Value.int .u32 (((o).host).addr : Int)), (Value.int .i64 (o).port)] 34)) = W0
      have hw0 : Below w.heap.size w W0 := by rw [← hW0]; (repeat' first | (with_reducible exact Below.refl _ _) | (with_reducible refine Below.setCell ?_ (by first | omega | (simp; done) | (simp; omega)) _) | (with_reducible refine Below.alloc ?_ (by first | omega | (simp; done) | (simp; omega)) _) | refine below_drewN ?_ _ | refine Below.drew ?_ | (refine below_thru (by assumption) ?_ (by first | omega | (simp; done) | (simp; omega))) | exact Below.refl _ _)
      have hBA : Blk W0 (w.heap.size) 3 #[.int .i64 1] := by rw [← hW0]; exact (Blk.alloc (Blk.new _ _ _) _)
      have hBB : Blk W0 (w.heap.size + 1) 34 #[(Value.bool (o).opaq), (Value.int .i64 (o).id), (Value.string ⟨((o).scheme).toArray⟩), (Value.string ⟨(((o).host).name).toArray⟩), (Value.bool ((o).host).v4), (Value.int .u32 (((o).host).addr : Int)), (Value.int .i64 (o).port)] := by rw [← hW0]; exact (by have := Blk.new (w.alloc (Obj.cells #[.int .i64 1] 3)) 34 #[(Value.bool (o).opaq), (Value.int .i64 (o).id), (Value.string ⟨((o).scheme).toArray⟩), (Value.string ⟨(((o).host).name).toArray⟩), (Value.bool ((o).host).v4), (Value.int .u32 (((o).host).addr : Int)), (Value.int .i64 (o).port)]; simpa [World.size_alloc] using this)
      clear hW0
      refine (hcn.out _ hw0 hBA hBB).mono ?_
      rintro e w1 ⟨rfl, hb⟩
      go_wp2_with fail
      go_ret
      exact ⟨by rw [← hf.out] <;> simp, hw0.trans (hb.mono hw0.size)⟩
    · go_enter Tryd.func10, Tryd.ntmps10
      go_wp2_with fail
      generalize hW0 : ((w.alloc (Obj.cells #[.int .i64 2] 3)).alloc (Obj.cells #[(Value.bool (o).opaq), (Value.int .i64 (o).id), (Value.string ⟨((o).scheme).toArray⟩), (Value.string ⟨(((o).host).name).toArray⟩), (Value.bool ((o).host).v4), (Value.int .u32 (((o).host).addr : Int)), (Value.int .i64 (o).port)] 34)) = W0
      have hw0 : Below w.heap.size w W0 := by rw [← hW0]; (repeat' first | (with_reducible exact Below.refl _ _) | (with_reducible refine Below.setCell ?_ (by first | omega | (simp; done) | (simp; omega)) _) | (with_reducible refine Below.alloc ?_ (by first | omega | (simp; done) | (simp; omega)) _) | refine below_drewN ?_ _ | refine Below.drew ?_ | (refine below_thru (by assumption) ?_ (by first | omega | (simp; done) | (simp; omega))) | exact Below.refl _ _)
      have hBA : Blk W0 (w.heap.size) 3 #[.int .i64 2] := by rw [← hW0]; exact (Blk.alloc (Blk.new _ _ _) _)
      have hBB : Blk W0 (w.heap.size + 1) 34 #[(Value.bool (o).opaq), (Value.int .i64 (o).id), (Value.string ⟨((o).scheme).toArray⟩), (Value.string ⟨(((o).host).name).toArray⟩), (Value.bool ((o).host).v4), (Value.int .u32 (((o).host).addr : Int)), (Value.int .i64 (o).port)] := by rw [← hW0]; exact (by have := Blk.new (w.alloc (Obj.cells #[.int .i64 2] 3)) 34 #[(Value.bool (o).opaq), (Value.int .i64 (o).id), (Value.string ⟨((o).scheme).toArray⟩), (Value.string ⟨(((o).host).name).toArray⟩), (Value.bool ((o).host).v4), (Value.int .u32 (((o).host).addr : Int)), (Value.int .i64 (o).port)]; simpa [World.size_alloc] using this)
      clear hW0
      refine (hcn.out _ hw0 hBA hBB).mono ?_
      rintro e w1 ⟨rfl, hb⟩
      go_wp2_with fail
      go_ret
      exact ⟨by rw [← hf.out] <;> simp, hw0.trans (hb.mono hw0.size)⟩
  · have h1 : x ≠ 1 := fun h => hx (Or.inl h)
    have h2 : x ≠ 2 := fun h => hx (Or.inr h)
    have hf := Lib.hid (hn h1 h2)
    clear hq hn hx
    go_enter Tryd.func10, Tryd.ntmps10
    go_wp2_with fail
    all_goals go_ret
    all_goals exact ⟨by rw [hf.out] <;> rfl, by (repeat' first | (with_reducible exact Below.refl _ _) | (with_reducible refine Below.setCell ?_ (by first | omega | (simp; done) | (simp; omega)) _) | (with_reducible refine Below.alloc ?_ (by first | omega | (simp; done) | (simp; omega)) _) | refine below_drewN ?_ _ | refine Below.drew ?_ | (refine below_thru (by assumption) ?_ (by first | omega | (simp; done) | (simp; omega))) | exact Below.refl _ _)⟩
end Go.Proofs.YtkfoogmncokjnaaDoor
