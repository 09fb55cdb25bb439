/- embed.Frame: the verdict on a document that is framed. -/
import Derived.Test.YtkfoogmncokjnaaGreatDoorEmbedX
import Derived.Test.YtkfoogmncokjnaaGreatDoorPols
import Derived.WalkMore
namespace Go.Proofs.YtkfoogmncokjnaaGreatDoor
open Go.RowKit
attribute [local irreducible] Calls
def Gl.lets (self : Gl.Origin) (As : List Gl.Origin) (p : Gl.Pol) : Bool := Gl.framesS p.has p.anc self As
def Gl.frameGo (self : Gl.Origin) (As : List Gl.Origin) (x : Bool) : List Gl.Pol → Bool → Int
  | [], h => if h || x then 0 else 3
  | p :: r, h => if Gl.lets self As p then Gl.frameGo self As x r (h || p.has) else 2
theorem lets_has {self : Gl.Origin} {As : List Gl.Origin} {p : Gl.Pol} (h : Gl.lets self As p = false) : p.has = true := by
  unfold Gl.lets at h
  rw [show Gl.framesS p.has p.anc self As = (!p.has || As.all (fun a => Gl.anyS p.anc a self)) from rfl] at h
  cases hp : p.has
  · rw [hp] at h; simp at h
  · rfl
structure PolFit (p : Gl.Pol) : Prop where
  many : p.anc.length ≤ 281474976710656
  short : ∀ s ∈ p.anc, s.length ≤ 4294967280
set_option maxRecDepth 100000 in
set_option maxHeartbeats 4000000 in
theorem embed_frame (vp va : Value) (ev er x : Int) (et eu : List UInt8) (Ps : List Gl.Pol) (As : List Gl.Origin) (self : Gl.Origin) (w : World) (hE : Env w) (hP : Pols w vp Ps) (hPl : Ps.length ≤ 281474976710656) (hPf : ∀ p ∈ Ps, PolFit p) (hA : Origs w va As) (hAl : As.length ≤ 281474976710656) (hAo : ∀ a ∈ As, OFit a) :
    Calls Tryz.prog 17 #[.agg #[vp, .int .i64 ev, (Value.string ⟨(et).toArray⟩), .int .i64 er, (Value.string ⟨(eu).toArray⟩)], .int .i64 x, (Value.agg #[(Value.bool (self).opaq), (Value.int .i64 (self).id), (Value.string ⟨((self).scheme).toArray⟩), (Value.string ⟨(((self).host).name).toArray⟩), (Value.bool ((self).host).v4), (Value.int .u32 (((self).host).addr : Int)), (Value.int .i64 (self).port)]), va] w (Ret w (.int .i64 (Gl.frameGo self As (Gl.xfo x self As) Ps false))) := by
  have hxf := fun (W : World) (hW : Below w.heap.size w W) => embed_xfo x self va As W (hA.below hW) hAl
  have hcf : ∀ p ∈ Ps, ∀ W, Below w.heap.size w W → Calls Tryz.prog 36 #[.agg (pcells p), (Value.agg #[(Value.bool (self).opaq), (Value.int .i64 (self).id), (Value.string ⟨((self).scheme).toArray⟩), (Value.string ⟨(((self).host).name).toArray⟩), (Value.bool ((self).host).v4), (Value.int .u32 (((self).host).addr : Int)), (Value.int .i64 (self).port)]), va] W (Ret W (.bool (Gl.lets self As p))) := fun p hp W hW => by
    have hs := (hP.below hW).2 p hp
    exact csp_frames p.has p.box p.va p.vb va p.anc As self W (hE.below hW) hs.1 (hPf p hp).many (hPf p hp).short (hA.below hW) hAl hAo
  generalize hx : Gl.xfo x self As = xf at *
  have hR : ∀ (V : Int), Gl.frameGo self As xf Ps false = V → Hid (Gl.frameGo self As xf Ps false = V) := fun V h => Lib.hid h
  generalize hV : Gl.frameGo self As xf Ps false = V at *
  clear hR
  replace hV := Lib.hid hV
  replace hxf := Lib.hid hxf
  replace hcf := Lib.hid hcf
  have H := Lib.hid hP
  obtain ⟨A, c, rfl⟩ := hP.form
  obtain ⟨A2, c2, rfl⟩ := hA.form
  clear hP hA hPf hAo hE hx
  go_enter Tryz.func17, Tryz.ntmps17
  go_wp2_with fail
  go_wp2
  go_step3
  go_wp2
  go_step3
  generalize hW0 : ((w.alloc (Obj.cells #[.slice A Ps.length c, .int .i64 ev, (Value.string ⟨(et).toArray⟩), .int .i64 er, (Value.string ⟨(eu).toArray⟩)] 26)).alloc (Obj.cells #[(Value.bool (self).opaq), (Value.int .i64 (self).id), (Value.string ⟨((self).scheme).toArray⟩), (Value.string ⟨(((self).host).name).toArray⟩), (Value.bool ((self).host).v4), (Value.int .u32 (((self).host).addr : Int)), (Value.int .i64 (self).port)] 31)) = W0
  have hw0 : Below w.heap.size w W0 := by rw [← hW0]; (repeat' first | (with_reducible exact Below.refl _ _) | (with_reducible refine Below.setCell ?_ (by first | omega | (simp; done) | (simp; omega)) _) | (with_reducible refine Below.alloc ?_ (by first | omega | (simp; done) | (simp; omega)) _) | refine below_drewN ?_ _ | refine Below.drew ?_ | (refine below_thru (by assumption) ?_ (by first | omega | (simp; done) | (simp; omega))) | exact Below.refl _ _)
  have hBC : Blk W0 (w.heap.size) 26 #[.slice A Ps.length c, .int .i64 ev, (Value.string ⟨(et).toArray⟩), .int .i64 er, (Value.string ⟨(eu).toArray⟩)] := by rw [← hW0]; exact (Blk.alloc (Blk.new _ _ _) _)
  have hBO : Blk W0 (w.heap.size + 1) 31 #[(Value.bool (self).opaq), (Value.int .i64 (self).id), (Value.string ⟨((self).scheme).toArray⟩), (Value.string ⟨(((self).host).name).toArray⟩), (Value.bool ((self).host).v4), (Value.int .u32 (((self).host).addr : Int)), (Value.int .i64 (self).port)] := by rw [← hW0]; exact (by have := Blk.new (w.alloc (Obj.cells #[.slice A Ps.length c, .int .i64 ev, (Value.string ⟨(et).toArray⟩), .int .i64 er, (Value.string ⟨(eu).toArray⟩)] 26)) 31 #[(Value.bool (self).opaq), (Value.int .i64 (self).id), (Value.string ⟨((self).scheme).toArray⟩), (Value.string ⟨(((self).host).name).toArray⟩), (Value.bool ((self).host).v4), (Value.int .u32 (((self).host).addr : Int)), (Value.int .i64 (self).port)]; simpa [World.size_alloc] using this)
  clear hW0
  have hwz := hw0.size
  have hCl := hBC.lt
  have hCc := hBC.cell
  have hCf := hBC.frozen
  have hOl := hBO.lt
  have hOc := hBO.cell
  have hOf := hBO.frozen
  go_wp2
  go_loopw [9, 10, 16] (fun v h i wr => ∃ (k : Nat) (b : Bool), k ≤ Ps.length ∧ v = .int .i64 0 ∧ i = .int .i64 k ∧ h = .bool b ∧ Below w.heap.size w wr ∧ Blk wr (w.heap.size) 26 #[.slice A Ps.length c, .int .i64 ev, (Value.string ⟨(et).toArray⟩), .int .i64 er, (Value.string ⟨(eu).toArray⟩)] ∧ Blk wr (w.heap.size + 1) 31 #[(Value.bool (self).opaq), (Value.int .i64 (self).id), (Value.string ⟨((self).scheme).toArray⟩), (Value.string ⟨(((self).host).name).toArray⟩), (Value.bool ((self).host).v4), (Value.int .u32 (((self).host).addr : Int)), (Value.int .i64 (self).port)] ∧ Hid (Gl.frameGo self As xf (Ps.drop k) b = V)) (fun _ _ i _ => Ps.length - (intOf i).toNat)
  case atStart => exact ⟨0, false, Nat.zero_le _, rfl, rfl, rfl, by (repeat' first | (with_reducible exact Below.refl _ _) | (with_reducible refine Below.setCell ?_ (by first | omega | (simp; done) | (simp; omega)) _) | (with_reducible refine Below.alloc ?_ (by first | omega | (simp; done) | (simp; omega)) _) | refine below_drewN ?_ _ | refine Below.drew ?_ | (refine below_thru (by assumption) ?_ (by first | omega | (simp; done) | (simp; omega))) | exact Below.refl _ _), by (repeat' first | (with_reducible assumption) | (with_reducible exact Blk.new _ _ _) | (with_reducible refine Blk.drew_ ?_) | (with_reducible refine Blk.alloc ?_ _) | (refine Blk.below ?_ (by assumption) (by first | omega | (simp; done) | (simp; omega)))), by (repeat' first | (with_reducible assumption) | (with_reducible exact Blk.new _ _ _) | (with_reducible refine Blk.drew_ ?_) | (with_reducible refine Blk.alloc ?_ _) | (refine Blk.below ?_ (by assumption) (by first | omega | (simp; done) | (simp; omega)))), hV⟩
  case round =>
    clear hw0 hBC hBO hwz hCl hCc hCf hOl hOc hOf
    obtain ⟨k, b, hk, rfl, rfl, rfl, hw0, hBC, hBO, hr⟩ := hrel
    have hwz := hw0.size
    have hCl := hBC.lt
    have hCc := hBC.cell
    have hCf := hBC.frozen
    have hOl := hBO.lt
    have hOc := hBO.cell
    have hOf := hBO.frozen
    by_cases hlt : k < Ps.length
    · have hr2 := hr.out
      clear hr
      rw [drop_consX hlt, Gl.frameGo] at hr2
      obtain ⟨sb, so, sd, he, hsB, hcell⟩ := H.out.cells k hlt
      injection he with he1 he2 he3
      subst he1 he3
      have hcs := hcf.out _ (List.getElem_mem hlt)
      have hcw : ∀ i, i < 4 → wr.cell? ⟨sb, so + k * 4 + i, none⟩ = (pcells Ps[k])[i]? := fun i hi => (hw0.cell (p := ⟨sb, so + k * 4 + i, none⟩) hsB).trans (hcell i hi)
      have hlh := @lets_has self As Ps[k]
      obtain ⟨A3, d3, hva, _, _, _⟩ := (H.out.2 _ (List.getElem_mem hlt)).1
      obtain ⟨A4, d4, hvb, _, _, _⟩ := (H.out.2 _ (List.getElem_mem hlt)).2
      generalize Ps[k] = p at *
      obtain ⟨ph, pva, pbx, pvb, panc, pbs⟩ := p
      have c0 := hcw 0 (by decide)
      have c1 := hcw 1 (by decide)
      have c2 := hcw 2 (by decide)
      have c3 := hcw 3 (by decide)
      simp only [Nat.add_zero, pcells, List.getElem?_toArray, List.getElem?_cons_zero, List.getElem?_cons_succ] at c0 c1 c2 c3 hcs
      simp only at hlh hr2 hva hvb
      clear hcell hcw
      subst hva hvb
      generalize Gl.lets self As ⟨ph, .slice A3 panc.length d3, pbx, .slice A4 pbs.length d4, panc, pbs⟩ = q at *
      replace hcs := Lib.hid hcs
      cases q
      · have hph := hlh rfl
        subst hph
        have hV2 : Hid (V = 2) := Lib.hid (by rw [← hr2]; rfl)
        clear hr2 hlh
        cases b
        all_goals
          go_wp2_with (go_at_call 36; refine ( hcs.out _ (by (repeat' first | (with_reducible exact Below.refl _ _) | (with_reducible refine Below.setCell ?_ (by first | omega | (simp; done) | (simp; omega)) _) | (with_reducible refine Below.alloc ?_ (by first | omega | (simp; done) | (simp; omega)) _) | refine below_drewN ?_ _ | refine Below.drew ?_ | (refine below_thru (by assumption) ?_ (by first | omega | (simp; done) | (simp; omega))) | exact Below.refl _ _))).mono ?_; rintro e w1 ⟨rfl, hb⟩; obtain ⟨hc, hfz⟩ := bcell hb; have hz := hb.size; (try simp at hz); (try have hz0 : w.heap.size < w1.heap.size := by omega); (try have hz1 : w.heap.size + 1 < w1.heap.size := by omega); (try have hz2 : w.heap.size + 2 < w1.heap.size := by omega); (try have hz3 : w.heap.size + 3 < w1.heap.size := by omega); (try have hcA := fun o => hc w.heap.size o (by first | omega | (simp; omega))); (try have hcB := fun o => hc (w.heap.size + 1) o (by first | omega | (simp; omega))))
          show (bodyPost _ _ _) Exit.ret _ _
          go_ret
          exact ⟨by rw [hV2.out]; rfl, by (repeat' first | (with_reducible exact Below.refl _ _) | (with_reducible refine Below.setCell ?_ (by first | omega | (simp; done) | (simp; omega)) _) | (with_reducible refine Below.alloc ?_ (by first | omega | (simp; done) | (simp; omega)) _) | refine below_drewN ?_ _ | refine Below.drew ?_ | (refine below_thru (by assumption) ?_ (by first | omega | (simp; done) | (simp; omega))) | exact Below.refl _ _)⟩
      · have hr3 : Hid (Gl.frameGo self As xf (Ps.drop (k + 1)) (b || ph) = V) := Lib.hid (by rw [← hr2]; rfl)
        clear hr2 hlh
        cases b <;> cases ph
        all_goals
          go_wp2_with (go_at_call 36; refine ( hcs.out _ (by (repeat' first | (with_reducible exact Below.refl _ _) | (with_reducible refine Below.setCell ?_ (by first | omega | (simp; done) | (simp; omega)) _) | (with_reducible refine Below.alloc ?_ (by first | omega | (simp; done) | (simp; omega)) _) | refine below_drewN ?_ _ | refine Below.drew ?_ | (refine below_thru (by assumption) ?_ (by first | omega | (simp; done) | (simp; omega))) | exact Below.refl _ _))).mono ?_; rintro e w1 ⟨rfl, hb⟩; obtain ⟨hc, hfz⟩ := bcell hb; have hz := hb.size; (try simp at hz); (try have hz0 : w.heap.size < w1.heap.size := by omega); (try have hz1 : w.heap.size + 1 < w1.heap.size := by omega); (try have hz2 : w.heap.size + 2 < w1.heap.size := by omega); (try have hz3 : w.heap.size + 3 < w1.heap.size := by omega); (try have hcA := fun o => hc w.heap.size o (by first | omega | (simp; omega))); (try have hcB := fun o => hc (w.heap.size + 1) o (by first | omega | (simp; omega))))
          go_roundw
          case rel => exact ⟨k + 1, _, by omega, rfl, by go_num, rfl, by (repeat' first | (with_reducible exact Below.refl _ _) | (with_reducible refine Below.setCell ?_ (by first | omega | (simp; done) | (simp; omega)) _) | (with_reducible refine Below.alloc ?_ (by first | omega | (simp; done) | (simp; omega)) _) | refine below_drewN ?_ _ | refine Below.drew ?_ | (refine below_thru (by assumption) ?_ (by first | omega | (simp; done) | (simp; omega))) | exact Below.refl _ _), by (repeat' first | (with_reducible assumption) | (with_reducible exact Blk.new _ _ _) | (with_reducible refine Blk.drew_ ?_) | (with_reducible refine Blk.alloc ?_ _) | (refine Blk.below ?_ (by assumption) (by first | omega | (simp; done) | (simp; omega)))), by (repeat' first | (with_reducible assumption) | (with_reducible exact Blk.new _ _ _) | (with_reducible refine Blk.drew_ ?_) | (with_reducible refine Blk.alloc ?_ _) | (refine Blk.below ?_ (by assumption) (by first | omega | (simp; done) | (simp; omega)))), hr3⟩
          case measure => simp [intOf]; omega
    · rw [List.drop_eq_nil_of_le (by omega)] at hr
      replace hr : Hid ((if b || xf then (0 : Int) else 3) = V) := Lib.hid (by rw [← hr.out, Gl.frameGo])
      cases b <;> cases xf
      all_goals
        go_wp2_with (go_at_call 15; refine ( hxf.out _ (by (repeat' first | (with_reducible exact Below.refl _ _) | (with_reducible refine Below.setCell ?_ (by first | omega | (simp; done) | (simp; omega)) _) | (with_reducible refine Below.alloc ?_ (by first | omega | (simp; done) | (simp; omega)) _) | refine below_drewN ?_ _ | refine Below.drew ?_ | (refine below_thru (by assumption) ?_ (by first | omega | (simp; done) | (simp; omega))) | exact Below.refl _ _))).mono ?_; rintro e w1 ⟨rfl, hb⟩; obtain ⟨hc, hfz⟩ := bcell hb; have hz := hb.size; (try simp at hz); (try have hz0 : w.heap.size < w1.heap.size := by omega); (try have hz1 : w.heap.size + 1 < w1.heap.size := by omega); (try have hz2 : w.heap.size + 2 < w1.heap.size := by omega); (try have hz3 : w.heap.size + 3 < w1.heap.size := by omega); (try have hcA := fun o => hc w.heap.size o (by first | omega | (simp; omega))); (try have hcB := fun o => hc (w.heap.size + 1) o (by first | omega | (simp; omega))))
        go_ret
        exact ⟨by rw [← hr.out]; simp, by (repeat' first | (with_reducible exact Below.refl _ _) | (with_reducible refine Below.setCell ?_ (by first | omega | (simp; done) | (simp; omega)) _) | (with_reducible refine Below.alloc ?_ (by first | omega | (simp; done) | (simp; omega)) _) | refine below_drewN ?_ _ | refine Below.drew ?_ | (refine below_thru (by assumption) ?_ (by first | omega | (simp; done) | (simp; omega))) | exact Below.refl _ _)⟩
end Go.Proofs.YtkfoogmncokjnaaGreatDoor
