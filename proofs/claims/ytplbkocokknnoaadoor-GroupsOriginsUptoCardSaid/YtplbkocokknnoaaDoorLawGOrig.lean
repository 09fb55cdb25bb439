/- glacislaw17.GroupsOrigins: one cluster just if the same, or of one site. -/
import Derived.Test.YtplbkocokknnoaaDoorAwake17
import Derived.Test.YtplbkocokknnoaaDoorPlain17
namespace Go.Proofs.YtplbkocokknnoaaDoor
open Go.RowKit
attribute [local irreducible] Calls
set_option maxRecDepth 100000 in
set_option maxHeartbeats 8000000 in
theorem law17_origins (s t : List UInt8) (v : Value) (S : List (List UInt8)) (w : World) (hE : Env w) (hs : s.length ≤ 1048576) (ht : t.length ≤ 1048576) (hv : Strs w w.heap.size v S) :
    Calls Tryd.prog 3 #[(Value.string ⟨(s).toArray⟩), (Value.string ⟨(t).toArray⟩), v] w (Ret w (.bool true)) := by
  have hsm : ∀ W, Below w.heap.size w W → Calls Tryd.prog 8 #[v] W (Ret W (.bool (smallS S))) := fun W hW => (law4_small v S W _ (hv.keep hW)).mono (fun _ _ h => h.ret)
  have hup := fun W (hW : Below w.heap.size w W) => awake17 W (hE.below hW)
  have hsmo := @small_out S
  have hp1 := fun W (hW : Below w.heap.size w W) => urlp_parse s W (by omega) (hE.below hW)
  have hp2 := fun W (hW : Below w.heap.size w W) => urlp_parse t W (by omega) (hE.below hW)
  have hn1 := fun W => urlp_net (Gl.parse s).1 W
  have hn2 := fun W => urlp_net (Gl.parse t).1 W
  have hr1 := parse_rest_len s
  have hr2 := parse_rest_len t
  have hc1 : (Gl.parse s).2 = 0 → Gl.isNet (Gl.parse s).1 = true → Norm (Gl.parse s).1 := fun h1 h2 => (norm_of s h1 h2).1
  have hc2 : (Gl.parse t).2 = 0 → Gl.isNet (Gl.parse t).1 = true → Norm (Gl.parse t).1 := fun h1 h2 => (norm_of t h1 h2).1
  generalize Gl.parse s = p1 at *
  generalize Gl.parse t = p2 at *
  obtain ⟨u1, er1⟩ := p1
  obtain ⟨u2, er2⟩ := p2
  simp only at hp1 hp2 hn1 hn2 hr1 hr2 hc1 hc2
  generalize Gl.isNet u1 = b1 at *
  generalize Gl.isNet u2 = b2 at *
  generalize smallS S = b3 at *
  have hS := Lib.hid hv
  obtain ⟨vA, vc, rfl, hv1, hv2, _⟩ := hv
  unfold maxLen at hv2
  replace hsm := Lib.hid hsm
  replace hup := Lib.hid hup
  replace hsmo := Lib.hid hsmo
  replace hp1 := Lib.hid hp1
  replace hp2 := Lib.hid hp2
  replace hn1 := Lib.hid hn1
  replace hn2 := Lib.hid hn2
  replace hc1 := Lib.hid hc1
  replace hc2 := Lib.hid hc2
  go_enter Tryd.func3, Tryd.ntmps3
  go_upto_region 2 with (go_at_call 5; refine ( hup.out _ (by (repeat' first | (with_reducible exact Below.refl _ _) | (with_reducible refine Below.setCell ?_ (by first | omega | (simp; done) | (simp; omega)) _) | (with_reducible refine Below.alloc ?_ (by first | omega | (simp; done) | (simp; omega)) _) | refine below_drewN ?_ _ | refine Below.drew ?_ | (refine below_thru (by assumption) ?_ (by first | omega | (simp; done) | (simp; omega))) | exact Below.refl _ _))).mono ?_; rintro e w1 ⟨rfl, hb⟩; obtain ⟨hc, hfz⟩ := bcell hb; have hz := hb.size; (try simp at hz); (try have hz0 : w.heap.size < w1.heap.size := by omega); (try have hz1 : w.heap.size + 1 < w1.heap.size := by omega); (try have hz2 : w.heap.size + 2 < w1.heap.size := by omega); (try have hz3 : w.heap.size + 3 < w1.heap.size := by omega); (try have hcA := fun o => hc w.heap.size o (by first | omega | (simp; omega))); (try have hcB := fun o => hc (w.heap.size + 1) o (by first | omega | (simp; omega))); (try have hcGgA := fun o => hc gA o (by first | omega | (simp; omega))); (try have hfGgA := fun o => hfz gA o (by first | omega | (simp; omega))); (try have hzGgA : gA < w1.heap.size := by omega); (try have hcGgB := fun o => hc gB o (by first | omega | (simp; omega))); (try have hfGgB := fun o => hfz gB o (by first | omega | (simp; omega))); (try have hzGgB : gB < w1.heap.size := by omega))
  go_cut [8, 9] from 23 (fun x8 x9 w' => ∃ gC, x8 = .pointer (some ⟨gC, 0, none⟩) ∧ x9 = .int .i64 er1 ∧ Below w.heap.size w w' ∧ Blk w' gC 28 #[(Value.string ⟨((u1).scheme).toArray⟩), (Value.string ⟨(((u1).host).name).toArray⟩), (Value.bool ((u1).host).v4), (Value.int .u32 (((u1).host).addr : Int)), (Value.int .i64 (u1).port), (Value.string ⟨((u1).path).toArray⟩), (Value.bool (u1).hasQuery), (Value.string ⟨((u1).query).toArray⟩), (Value.string ⟨((u1).rest).toArray⟩)])
  case first =>
    go_wp2_with (go_at_call 6; refine ( hp1.out _ (by (repeat' first | (with_reducible exact Below.refl _ _) | (with_reducible refine Below.setCell ?_ (by first | omega | (simp; done) | (simp; omega)) _) | (with_reducible refine Below.alloc ?_ (by first | omega | (simp; done) | (simp; omega)) _) | refine below_drewN ?_ _ | refine Below.drew ?_ | (refine below_thru (by assumption) ?_ (by first | omega | (simp; done) | (simp; omega))) | exact Below.refl _ _))).mono ?_; rintro e w1 ⟨rfl, hb⟩; obtain ⟨hc, hfz⟩ := bcell hb; have hz := hb.size; (try simp at hz); (try have hz0 : w.heap.size < w1.heap.size := by omega); (try have hz1 : w.heap.size + 1 < w1.heap.size := by omega); (try have hz2 : w.heap.size + 2 < w1.heap.size := by omega); (try have hz3 : w.heap.size + 3 < w1.heap.size := by omega); (try have hcA := fun o => hc w.heap.size o (by first | omega | (simp; omega))); (try have hcB := fun o => hc (w.heap.size + 1) o (by first | omega | (simp; omega))); (try have hcGgA := fun o => hc gA o (by first | omega | (simp; omega))); (try have hfGgA := fun o => hfz gA o (by first | omega | (simp; omega))); (try have hzGgA : gA < w1.heap.size := by omega); (try have hcGgB := fun o => hc gB o (by first | omega | (simp; omega))); (try have hfGgB := fun o => hfz gB o (by first | omega | (simp; omega))); (try have hzGgB : gB < w1.heap.size := by omega))
    go_meet
    case rel => exact ⟨_, rfl, rfl, by (repeat' first | (with_reducible exact Below.refl _ _) | (with_reducible refine Below.setCell ?_ (by first | omega | (simp; done) | (simp; omega)) _) | (with_reducible refine Below.alloc ?_ (by first | omega | (simp; done) | (simp; omega)) _) | refine below_drewN ?_ _ | refine Below.drew ?_ | (refine below_thru (by assumption) ?_ (by first | omega | (simp; done) | (simp; omega))) | exact Below.refl _ _), by (repeat' first | (with_reducible assumption) | (with_reducible exact Blk.new _ _ _) | (with_reducible refine Blk.drew_ ?_) | (with_reducible refine Blk.alloc ?_ _) | (refine Blk.below ?_ (by assumption) (by first | omega | (simp; done) | (simp; omega))))⟩
  case rest =>
  obtain ⟨gC, rfl, rfl, hw0, hBU⟩ := hcut
  have hwz := hw0.size
  have hUl := hBU.lt
  have hUc := hBU.cell
  have hUf := hBU.frozen
  go_upto_region 3 with fail
  go_cut [10, 11] from 23 (fun x10 x11 w' => ∃ gD, x10 = .pointer (some ⟨gD, 0, none⟩) ∧ x11 = .int .i64 er2 ∧ Below w.heap.size w w' ∧ Blk w' gC 28 #[(Value.string ⟨((u1).scheme).toArray⟩), (Value.string ⟨(((u1).host).name).toArray⟩), (Value.bool ((u1).host).v4), (Value.int .u32 (((u1).host).addr : Int)), (Value.int .i64 (u1).port), (Value.string ⟨((u1).path).toArray⟩), (Value.bool (u1).hasQuery), (Value.string ⟨((u1).query).toArray⟩), (Value.string ⟨((u1).rest).toArray⟩)] ∧ Blk w' gD 28 #[(Value.string ⟨((u2).scheme).toArray⟩), (Value.string ⟨(((u2).host).name).toArray⟩), (Value.bool ((u2).host).v4), (Value.int .u32 (((u2).host).addr : Int)), (Value.int .i64 (u2).port), (Value.string ⟨((u2).path).toArray⟩), (Value.bool (u2).hasQuery), (Value.string ⟨((u2).query).toArray⟩), (Value.string ⟨((u2).rest).toArray⟩)])
  case first =>
    go_wp2_with (go_at_call 6; refine ( hp2.out _ (by (repeat' first | (with_reducible exact Below.refl _ _) | (with_reducible refine Below.setCell ?_ (by first | omega | (simp; done) | (simp; omega)) _) | (with_reducible refine Below.alloc ?_ (by first | omega | (simp; done) | (simp; omega)) _) | refine below_drewN ?_ _ | refine Below.drew ?_ | (refine below_thru (by assumption) ?_ (by first | omega | (simp; done) | (simp; omega))) | exact Below.refl _ _))).mono ?_; rintro e w1 ⟨rfl, hb⟩; obtain ⟨hc, hfz⟩ := bcell hb; have hz := hb.size; (try simp at hz); (try have hz0 : w.heap.size < w1.heap.size := by omega); (try have hz1 : w.heap.size + 1 < w1.heap.size := by omega); (try have hz2 : w.heap.size + 2 < w1.heap.size := by omega); (try have hz3 : w.heap.size + 3 < w1.heap.size := by omega); (try have hcA := fun o => hc w.heap.size o (by first | omega | (simp; omega))); (try have hcB := fun o => hc (w.heap.size + 1) o (by first | omega | (simp; omega))); (try have hcGgA := fun o => hc gA o (by first | omega | (simp; omega))); (try have hfGgA := fun o => hfz gA o (by first | omega | (simp; omega))); (try have hzGgA : gA < w1.heap.size := by omega); (try have hcGgB := fun o => hc gB o (by first | omega | (simp; omega))); (try have hfGgB := fun o => hfz gB o (by first | omega | (simp; omega))); (try have hzGgB : gB < w1.heap.size := by omega))
    go_meet
    case rel => exact ⟨_, rfl, rfl, by (repeat' first | (with_reducible exact Below.refl _ _) | (with_reducible refine Below.setCell ?_ (by first | omega | (simp; done) | (simp; omega)) _) | (with_reducible refine Below.alloc ?_ (by first | omega | (simp; done) | (simp; omega)) _) | refine below_drewN ?_ _ | refine Below.drew ?_ | (refine below_thru (by assumption) ?_ (by first | omega | (simp; done) | (simp; omega))) | exact Below.refl _ _), by (repeat' first | (with_reducible assumption) | (with_reducible exact Blk.new _ _ _) | (with_reducible refine Blk.drew_ ?_) | (with_reducible refine Blk.alloc ?_ _) | (refine Blk.below ?_ (by assumption) (by first | omega | (simp; done) | (simp; omega)))), by (repeat' first | (with_reducible assumption) | (with_reducible exact Blk.new _ _ _) | (with_reducible refine Blk.drew_ ?_) | (with_reducible refine Blk.alloc ?_ _) | (refine Blk.below ?_ (by assumption) (by first | omega | (simp; done) | (simp; omega))))⟩
  case rest =>
  clear hw0 hwz hBU hUl hUc hUf
  obtain ⟨gD, rfl, rfl, hw0, hBU, hBV⟩ := hcut
  have hwz := hw0.size
  have hUl := hBU.lt
  have hUc := hBU.cell
  have hUf := hBU.frozen
  have hVl := hBV.lt
  have hVc := hBV.cell
  have hVf := hBV.frozen
  go_upto_region 7 with (first | (go_at_call 7; refine ( hn1.out _).mono ?_; rintro e w1 ⟨rfl, hb⟩; obtain ⟨hc, hfz⟩ := bcell hb; have hz := hb.size; (try simp at hz); (try have hz0 : w.heap.size < w1.heap.size := by omega); (try have hz1 : w.heap.size + 1 < w1.heap.size := by omega); (try have hz2 : w.heap.size + 2 < w1.heap.size := by omega); (try have hz3 : w.heap.size + 3 < w1.heap.size := by omega); (try have hcA := fun o => hc w.heap.size o (by first | omega | (simp; omega))); (try have hcB := fun o => hc (w.heap.size + 1) o (by first | omega | (simp; omega))); (try have hcGgA := fun o => hc gA o (by first | omega | (simp; omega))); (try have hfGgA := fun o => hfz gA o (by first | omega | (simp; omega))); (try have hzGgA : gA < w1.heap.size := by omega); (try have hcGgB := fun o => hc gB o (by first | omega | (simp; omega))); (try have hfGgB := fun o => hfz gB o (by first | omega | (simp; omega))); (try have hzGgB : gB < w1.heap.size := by omega); (try have hcGgC := fun o => hc gC o (by first | omega | (simp; omega))); (try have hfGgC := fun o => hfz gC o (by first | omega | (simp; omega))); (try have hzGgC : gC < w1.heap.size := by omega); (try have hcGgD := fun o => hc gD o (by first | omega | (simp; omega))); (try have hfGgD := fun o => hfz gD o (by first | omega | (simp; omega))); (try have hzGgD : gD < w1.heap.size := by omega); (try have hcGgE := fun o => hc gE o (by first | omega | (simp; omega))); (try have hfGgE := fun o => hfz gE o (by first | omega | (simp; omega))); (try have hzGgE : gE < w1.heap.size := by omega); (try have hcGgF := fun o => hc gF o (by first | omega | (simp; omega))); (try have hfGgF := fun o => hfz gF o (by first | omega | (simp; omega))); (try have hzGgF : gF < w1.heap.size := by omega)) | (go_at_call 7; refine ( hn2.out _).mono ?_; rintro e w1 ⟨rfl, hb⟩; obtain ⟨hc, hfz⟩ := bcell hb; have hz := hb.size; (try simp at hz); (try have hz0 : w.heap.size < w1.heap.size := by omega); (try have hz1 : w.heap.size + 1 < w1.heap.size := by omega); (try have hz2 : w.heap.size + 2 < w1.heap.size := by omega); (try have hz3 : w.heap.size + 3 < w1.heap.size := by omega); (try have hcA := fun o => hc w.heap.size o (by first | omega | (simp; omega))); (try have hcB := fun o => hc (w.heap.size + 1) o (by first | omega | (simp; omega))); (try have hcGgA := fun o => hc gA o (by first | omega | (simp; omega))); (try have hfGgA := fun o => hfz gA o (by first | omega | (simp; omega))); (try have hzGgA : gA < w1.heap.size := by omega); (try have hcGgB := fun o => hc gB o (by first | omega | (simp; omega))); (try have hfGgB := fun o => hfz gB o (by first | omega | (simp; omega))); (try have hzGgB : gB < w1.heap.size := by omega); (try have hcGgC := fun o => hc gC o (by first | omega | (simp; omega))); (try have hfGgC := fun o => hfz gC o (by first | omega | (simp; omega))); (try have hzGgC : gC < w1.heap.size := by omega); (try have hcGgD := fun o => hc gD o (by first | omega | (simp; omega))); (try have hfGgD := fun o => hfz gD o (by first | omega | (simp; omega))); (try have hzGgD : gD < w1.heap.size := by omega); (try have hcGgE := fun o => hc gE o (by first | omega | (simp; omega))); (try have hfGgE := fun o => hfz gE o (by first | omega | (simp; omega))); (try have hzGgE : gE < w1.heap.size := by omega); (try have hcGgF := fun o => hc gF o (by first | omega | (simp; omega))); (try have hfGgF := fun o => hfz gF o (by first | omega | (simp; omega))); (try have hzGgF : gF < w1.heap.size := by omega)) | (go_at_call 8; refine ( hsm.out _ (by (repeat' first | (with_reducible exact Below.refl _ _) | (with_reducible refine Below.setCell ?_ (by first | omega | (simp; done) | (simp; omega)) _) | (with_reducible refine Below.alloc ?_ (by first | omega | (simp; done) | (simp; omega)) _) | refine below_drewN ?_ _ | refine Below.drew ?_ | (refine below_thru (by assumption) ?_ (by first | omega | (simp; done) | (simp; omega))) | exact Below.refl _ _))).mono ?_; rintro e w1 ⟨rfl, hb⟩; obtain ⟨hc, hfz⟩ := bcell hb; have hz := hb.size; (try simp at hz); (try have hz0 : w.heap.size < w1.heap.size := by omega); (try have hz1 : w.heap.size + 1 < w1.heap.size := by omega); (try have hz2 : w.heap.size + 2 < w1.heap.size := by omega); (try have hz3 : w.heap.size + 3 < w1.heap.size := by omega); (try have hcA := fun o => hc w.heap.size o (by first | omega | (simp; omega))); (try have hcB := fun o => hc (w.heap.size + 1) o (by first | omega | (simp; omega))); (try have hcGgA := fun o => hc gA o (by first | omega | (simp; omega))); (try have hfGgA := fun o => hfz gA o (by first | omega | (simp; omega))); (try have hzGgA : gA < w1.heap.size := by omega); (try have hcGgB := fun o => hc gB o (by first | omega | (simp; omega))); (try have hfGgB := fun o => hfz gB o (by first | omega | (simp; omega))); (try have hzGgB : gB < w1.heap.size := by omega); (try have hcGgC := fun o => hc gC o (by first | omega | (simp; omega))); (try have hfGgC := fun o => hfz gC o (by first | omega | (simp; omega))); (try have hzGgC : gC < w1.heap.size := by omega); (try have hcGgD := fun o => hc gD o (by first | omega | (simp; omega))); (try have hfGgD := fun o => hfz gD o (by first | omega | (simp; omega))); (try have hzGgD : gD < w1.heap.size := by omega); (try have hcGgE := fun o => hc gE o (by first | omega | (simp; omega))); (try have hfGgE := fun o => hfz gE o (by first | omega | (simp; omega))); (try have hzGgE : gE < w1.heap.size := by omega); (try have hcGgF := fun o => hc gF o (by first | omega | (simp; omega))); (try have hfGgF := fun o => hfz gF o (by first | omega | (simp; omega))); (try have hzGgF : gF < w1.heap.size := by omega)))
  by_cases l1 : 3000 < s.length
  · skip
    go_wp2_with fail
    go_ret
    exact ⟨rfl, by (repeat' first | (with_reducible exact Below.refl _ _) | (with_reducible refine Below.setCell ?_ (by first | omega | (simp; done) | (simp; omega)) _) | (with_reducible refine Below.alloc ?_ (by first | omega | (simp; done) | (simp; omega)) _) | refine below_drewN ?_ _ | refine Below.drew ?_ | (refine below_thru (by assumption) ?_ (by first | omega | (simp; done) | (simp; omega))) | exact Below.refl _ _)⟩
  by_cases l2 : 3000 < t.length
  · skip
    go_wp2_with fail
    go_ret
    exact ⟨rfl, by (repeat' first | (with_reducible exact Below.refl _ _) | (with_reducible refine Below.setCell ?_ (by first | omega | (simp; done) | (simp; omega)) _) | (with_reducible refine Below.alloc ?_ (by first | omega | (simp; done) | (simp; omega)) _) | refine below_drewN ?_ _ | refine Below.drew ?_ | (refine below_thru (by assumption) ?_ (by first | omega | (simp; done) | (simp; omega))) | exact Below.refl _ _)⟩
  by_cases e1 : er1 = 0
  case neg =>
    have e1b : (er1 != 0) = true := by rw [bne_iff_ne]; exact e1
    replace e1 := Lib.hid e1
    go_wp2_with fail
    go_ret
    exact ⟨rfl, by (repeat' first | (with_reducible exact Below.refl _ _) | (with_reducible refine Below.setCell ?_ (by first | omega | (simp; done) | (simp; omega)) _) | (with_reducible refine Below.alloc ?_ (by first | omega | (simp; done) | (simp; omega)) _) | refine below_drewN ?_ _ | refine Below.drew ?_ | (refine below_thru (by assumption) ?_ (by first | omega | (simp; done) | (simp; omega))) | exact Below.refl _ _)⟩
  subst e1
  by_cases e2 : er2 = 0
  case neg =>
    have e2b : (er2 != 0) = true := by rw [bne_iff_ne]; exact e2
    replace e2 := Lib.hid e2
    go_wp2_with fail
    go_ret
    exact ⟨rfl, by (repeat' first | (with_reducible exact Below.refl _ _) | (with_reducible refine Below.setCell ?_ (by first | omega | (simp; done) | (simp; omega)) _) | (with_reducible refine Below.alloc ?_ (by first | omega | (simp; done) | (simp; omega)) _) | refine below_drewN ?_ _ | refine Below.drew ?_ | (refine below_thru (by assumption) ?_ (by first | omega | (simp; done) | (simp; omega))) | exact Below.refl _ _)⟩
  subst e2
  cases b1
  · skip
    go_wp2_with fail
    go_ret
    exact ⟨rfl, by (repeat' first | (with_reducible exact Below.refl _ _) | (with_reducible refine Below.setCell ?_ (by first | omega | (simp; done) | (simp; omega)) _) | (with_reducible refine Below.alloc ?_ (by first | omega | (simp; done) | (simp; omega)) _) | refine below_drewN ?_ _ | refine Below.drew ?_ | (refine below_thru (by assumption) ?_ (by first | omega | (simp; done) | (simp; omega))) | exact Below.refl _ _)⟩
  cases b2
  · skip
    go_wp2_with fail
    go_ret
    exact ⟨rfl, by (repeat' first | (with_reducible exact Below.refl _ _) | (with_reducible refine Below.setCell ?_ (by first | omega | (simp; done) | (simp; omega)) _) | (with_reducible refine Below.alloc ?_ (by first | omega | (simp; done) | (simp; omega)) _) | refine below_drewN ?_ _ | refine Below.drew ?_ | (refine below_thru (by assumption) ?_ (by first | omega | (simp; done) | (simp; omega))) | exact Below.refl _ _)⟩
  cases b3
  · skip
    go_wp2_with fail
    go_ret
    exact ⟨rfl, by (repeat' first | (with_reducible exact Below.refl _ _) | (with_reducible refine Below.setCell ?_ (by first | omega | (simp; done) | (simp; omega)) _) | (with_reducible refine Below.alloc ?_ (by first | omega | (simp; done) | (simp; omega)) _) | refine below_drewN ?_ _ | refine Below.drew ?_ | (refine below_thru (by assumption) ?_ (by first | omega | (simp; done) | (simp; omega))) | exact Below.refl _ _)⟩
  have hN1 := hc1.out rfl rfl
  have hN2 := hc2.out rfl rfl
  obtain ⟨hs1, hs2⟩ := hsmo.out rfl
  have hSu : Sufs w (.slice vA S.length vc) S := ⟨hS.out, by omega, fun y hy => by have := hs2 y hy; omega⟩
  have hof1 : ∀ W, Below w.heap.size w W → Calls Tryd.prog 9 #[(Value.agg #[(Value.string ⟨((u1).scheme).toArray⟩), (Value.string ⟨(((u1).host).name).toArray⟩), (Value.bool ((u1).host).v4), (Value.int .u32 (((u1).host).addr : Int)), (Value.int .i64 (u1).port), (Value.string ⟨((u1).path).toArray⟩), (Value.bool (u1).hasQuery), (Value.string ⟨((u1).query).toArray⟩), (Value.string ⟨((u1).rest).toArray⟩)]), .int .i64 1] W (Ret W ((Value.agg #[(Value.bool (netO u1).opaq), (Value.int .i64 (netO u1).id), (Value.string ⟨((netO u1).scheme).toArray⟩), (Value.string ⟨(((netO u1).host).name).toArray⟩), (Value.bool ((netO u1).host).v4), (Value.int .u32 (((netO u1).host).addr : Int)), (Value.int .i64 (netO u1).port)]))) := fun W hW => by
    have := origin_of u1 1 W (hE.below hW) (by omega)
    rw [hN1.origin] at this
    exact this
  have hof2 : ∀ W, Below w.heap.size w W → Calls Tryd.prog 9 #[(Value.agg #[(Value.string ⟨((u2).scheme).toArray⟩), (Value.string ⟨(((u2).host).name).toArray⟩), (Value.bool ((u2).host).v4), (Value.int .u32 (((u2).host).addr : Int)), (Value.int .i64 (u2).port), (Value.string ⟨((u2).path).toArray⟩), (Value.bool (u2).hasQuery), (Value.string ⟨((u2).query).toArray⟩), (Value.string ⟨((u2).rest).toArray⟩)]), .int .i64 2] W (Ret W ((Value.agg #[(Value.bool (netO u2).opaq), (Value.int .i64 (netO u2).id), (Value.string ⟨((netO u2).scheme).toArray⟩), (Value.string ⟨(((netO u2).host).name).toArray⟩), (Value.bool ((netO u2).host).v4), (Value.int .u32 (((netO u2).host).addr : Int)), (Value.int .i64 (netO u2).port)]))) := fun W hW => by
    have := origin_of u2 2 W (hE.below hW) (by omega)
    rw [hN2.origin] at this
    exact this
  have hsame := fun W => origin_same (netO u1) (netO u2) W
  have hwA := netO_wide17 hN1
  have hwB := netO_wide17 hN2
  have hsite := fun W (hW : Below w.heap.size w W) => origin_same_site (netO u1) (netO u2) (.slice vA S.length vc) S W (hE.below hW) hwA.fits hwB.fits (hSu.below hW)
  have hk1 := key_same hN1 hN2 S
  have hk2 := key_site hN1 hN2 S
  have hidA : -9223372036854775808 ≤ (netO u1).id ∧ (netO u1).id ≤ 9223372036854775807 := ⟨by show (-9223372036854775808 : Int) ≤ 0; decide, by show (0 : Int) ≤ 9223372036854775807; decide⟩
  have hidB : -9223372036854775808 ≤ (netO u2).id ∧ (netO u2).id ≤ 9223372036854775807 := ⟨by show (-9223372036854775808 : Int) ≤ 0; decide, by show (0 : Int) ≤ 9223372036854775807; decide⟩
  clear hc1 hc2 hsmo hs2 hr1 hr2 hN1 hN2 hp1 hp2 hn1 hn2 hsm hup
  generalize netO u1 = a at *
  generalize netO u2 = b at *
  obtain ⟨kA, hkA⟩ : ∃ k, Gl.keyOf a true S = k := ⟨_, rfl⟩
  obtain ⟨kB, hkB⟩ : ∃ k, Gl.keyOf b true S = k := ⟨_, rfl⟩
  obtain ⟨kC, hkC⟩ : ∃ k, Gl.keyOf a false S = k := ⟨_, rfl⟩
  obtain ⟨kD, hkD⟩ : ∃ k, Gl.keyOf b false S = k := ⟨_, rfl⟩
  rw [hkA, hkB] at hk1
  rw [hkC, hkD] at hk2
  generalize Gl.originSame a b = q at *
  generalize Gl.sameSite a b S = r at *
  generalize hes : (a.scheme == b.scheme) = es at *
  replace hk1 := Lib.hid hk1
  replace hk2 := Lib.hid hk2
  replace hkA := Lib.hid hkA
  replace hkB := Lib.hid hkB
  replace hkC := Lib.hid hkC
  replace hkD := Lib.hid hkD
  replace hof1 := Lib.hid hof1
  replace hof2 := Lib.hid hof2
  replace hsame := Lib.hid hsame
  replace hsite := Lib.hid hsite
  replace hSu := Lib.hid hSu
  clear hS hs hs1
  go_upto_region 9 with fail
  go_cut [15] from 23 (fun x15 w' => ∃ gA, x15 = .pointer (some ⟨gA, 0, none⟩) ∧ Below w.heap.size w w' ∧ Blk w' gD 28 #[(Value.string ⟨((u2).scheme).toArray⟩), (Value.string ⟨(((u2).host).name).toArray⟩), (Value.bool ((u2).host).v4), (Value.int .u32 (((u2).host).addr : Int)), (Value.int .i64 (u2).port), (Value.string ⟨((u2).path).toArray⟩), (Value.bool (u2).hasQuery), (Value.string ⟨((u2).query).toArray⟩), (Value.string ⟨((u2).rest).toArray⟩)] ∧ Blk w' gA 35 #[(Value.bool (a).opaq), (Value.int .i64 (a).id), (Value.string ⟨((a).scheme).toArray⟩), (Value.string ⟨(((a).host).name).toArray⟩), (Value.bool ((a).host).v4), (Value.int .u32 (((a).host).addr : Int)), (Value.int .i64 (a).port)])
  case first =>
    go_wp2_with (go_at_call 9; refine ( hof1.out _ (by (repeat' first | (with_reducible exact Below.refl _ _) | (with_reducible refine Below.setCell ?_ (by first | omega | (simp; done) | (simp; omega)) _) | (with_reducible refine Below.alloc ?_ (by first | omega | (simp; done) | (simp; omega)) _) | refine below_drewN ?_ _ | refine Below.drew ?_ | (refine below_thru (by assumption) ?_ (by first | omega | (simp; done) | (simp; omega))) | exact Below.refl _ _))).mono ?_; rintro e w1 ⟨rfl, hb⟩; obtain ⟨hc, hfz⟩ := bcell hb; have hz := hb.size; (try simp at hz); (try have hz0 : w.heap.size < w1.heap.size := by omega); (try have hz1 : w.heap.size + 1 < w1.heap.size := by omega); (try have hz2 : w.heap.size + 2 < w1.heap.size := by omega); (try have hz3 : w.heap.size + 3 < w1.heap.size := by omega); (try have hcA := fun o => hc w.heap.size o (by first | omega | (simp; omega))); (try have hcB := fun o => hc (w.heap.size + 1) o (by first | omega | (simp; omega))); (try have hcGgA := fun o => hc gA o (by first | omega | (simp; omega))); (try have hfGgA := fun o => hfz gA o (by first | omega | (simp; omega))); (try have hzGgA : gA < w1.heap.size := by omega); (try have hcGgB := fun o => hc gB o (by first | omega | (simp; omega))); (try have hfGgB := fun o => hfz gB o (by first | omega | (simp; omega))); (try have hzGgB : gB < w1.heap.size := by omega))
    go_meet
    case rel => exact ⟨_, rfl, by (repeat' first | (with_reducible exact Below.refl _ _) | (with_reducible refine Below.setCell ?_ (by first | omega | (simp; done) | (simp; omega)) _) | (with_reducible refine Below.alloc ?_ (by first | omega | (simp; done) | (simp; omega)) _) | refine below_drewN ?_ _ | refine Below.drew ?_ | (refine below_thru (by assumption) ?_ (by first | omega | (simp; done) | (simp; omega))) | exact Below.refl _ _), by (repeat' first | (with_reducible assumption) | (with_reducible exact Blk.new _ _ _) | (with_reducible refine Blk.drew_ ?_) | (with_reducible refine Blk.alloc ?_ _) | (refine Blk.below ?_ (by assumption) (by first | omega | (simp; done) | (simp; omega)))), by (repeat' first | (with_reducible assumption) | (with_reducible exact Blk.new _ _ _) | (with_reducible refine Blk.drew_ ?_) | (with_reducible refine Blk.alloc ?_ _) | (refine Blk.below ?_ (by assumption) (by first | omega | (simp; done) | (simp; omega))))⟩
  case rest =>
  clear hw0 hwz hUl hUc hUf hVl hVc hVf hBU hBV
  obtain ⟨gA, rfl, hw0, hBV, hBA⟩ := hcut
  have hwz := hw0.size
  have hVl := hBV.lt
  have hVc := hBV.cell
  have hVf := hBV.frozen
  have hAl := hBA.lt
  have hAc := hBA.cell
  have hAf := hBA.frozen
  go_upto_region 10 with fail
  go_cut [16] from 23 (fun x16 w' => ∃ gB, x16 = .pointer (some ⟨gB, 0, none⟩) ∧ Below w.heap.size w w' ∧ Blk w' gA 35 #[(Value.bool (a).opaq), (Value.int .i64 (a).id), (Value.string ⟨((a).scheme).toArray⟩), (Value.string ⟨(((a).host).name).toArray⟩), (Value.bool ((a).host).v4), (Value.int .u32 (((a).host).addr : Int)), (Value.int .i64 (a).port)] ∧ Blk w' gB 35 #[(Value.bool (b).opaq), (Value.int .i64 (b).id), (Value.string ⟨((b).scheme).toArray⟩), (Value.string ⟨(((b).host).name).toArray⟩), (Value.bool ((b).host).v4), (Value.int .u32 (((b).host).addr : Int)), (Value.int .i64 (b).port)])
  case first =>
    go_wp2_with (go_at_call 9; refine ( hof2.out _ (by (repeat' first | (with_reducible exact Below.refl _ _) | (with_reducible refine Below.setCell ?_ (by first | omega | (simp; done) | (simp; omega)) _) | (with_reducible refine Below.alloc ?_ (by first | omega | (simp; done) | (simp; omega)) _) | refine below_drewN ?_ _ | refine Below.drew ?_ | (refine below_thru (by assumption) ?_ (by first | omega | (simp; done) | (simp; omega))) | exact Below.refl _ _))).mono ?_; rintro e w1 ⟨rfl, hb⟩; obtain ⟨hc, hfz⟩ := bcell hb; have hz := hb.size; (try simp at hz); (try have hz0 : w.heap.size < w1.heap.size := by omega); (try have hz1 : w.heap.size + 1 < w1.heap.size := by omega); (try have hz2 : w.heap.size + 2 < w1.heap.size := by omega); (try have hz3 : w.heap.size + 3 < w1.heap.size := by omega); (try have hcA := fun o => hc w.heap.size o (by first | omega | (simp; omega))); (try have hcB := fun o => hc (w.heap.size + 1) o (by first | omega | (simp; omega))); (try have hcGgA := fun o => hc gA o (by first | omega | (simp; omega))); (try have hfGgA := fun o => hfz gA o (by first | omega | (simp; omega))); (try have hzGgA : gA < w1.heap.size := by omega); (try have hcGgB := fun o => hc gB o (by first | omega | (simp; omega))); (try have hfGgB := fun o => hfz gB o (by first | omega | (simp; omega))); (try have hzGgB : gB < w1.heap.size := by omega))
    go_meet
    case rel => exact ⟨_, rfl, by (repeat' first | (with_reducible exact Below.refl _ _) | (with_reducible refine Below.setCell ?_ (by first | omega | (simp; done) | (simp; omega)) _) | (with_reducible refine Below.alloc ?_ (by first | omega | (simp; done) | (simp; omega)) _) | refine below_drewN ?_ _ | refine Below.drew ?_ | (refine below_thru (by assumption) ?_ (by first | omega | (simp; done) | (simp; omega))) | exact Below.refl _ _), by (repeat' first | (with_reducible assumption) | (with_reducible exact Blk.new _ _ _) | (with_reducible refine Blk.drew_ ?_) | (with_reducible refine Blk.alloc ?_ _) | (refine Blk.below ?_ (by assumption) (by first | omega | (simp; done) | (simp; omega)))), by (repeat' first | (with_reducible assumption) | (with_reducible exact Blk.new _ _ _) | (with_reducible refine Blk.drew_ ?_) | (with_reducible refine Blk.alloc ?_ _) | (refine Blk.below ?_ (by assumption) (by first | omega | (simp; done) | (simp; omega))))⟩
  case rest =>
  clear hw0 hwz hVl hVc hVf hAl hAc hAf hBV hBA hof1 hof2
  obtain ⟨gB, rfl, hw0, bA, bB⟩ := hcut
  have hwz := hw0.size
  have hE1 := hE.below hw0
  have hS1 := hSu.out.below hw0
  have hz1 := hw0.size
  have nA := bA.lt
  have nB := bB.lt
  have lA := bA.lt
  have cA := bA.cell
  have fA := bA.frozen
  have lB := bB.lt
  have cB := bB.cell
  have fB := bB.frozen
  clear hSu hwz
  go_wp2_with fail
  refine (groups_new wc 2 (by decide) (by decide)).mono ?_
  rintro e w2 ⟨⟨rfl, B2⟩, hg2⟩
  clear lA cA fA lB cB fB
  replace bA := bA.below B2 bA.lt
  replace bB := bB.below B2 bB.lt
  have lA := bA.lt
  have cA := bA.cell
  have fA := bA.frozen
  have lB := bB.lt
  have cB := bB.cell
  have fB := bB.frozen
  go_wp2_with fail
  refine (groups_open _ _ _ _ _ _ _ _ true _ _ _ hg2 (by decide) (by decide) (by decide) (by simp)).mono ?_
  rintro e w3 ⟨⟨rfl, hb⟩, hg⟩
  have hg3 : GSt w3 (wc.heap.size + 3) wc.heap.size (wc.heap.size + 1) (wc.heap.size + 2) 2 1 0 [(1, true)] [] [] := hg
  have B3 : Below wc.heap.size wc w3 := B2.trans (hb.four B2.size (Nat.le_refl _) (by omega) (by omega) (by omega))
  clear lA cA fA lB cB fB
  replace bA := bA.but hb (by simp; omega)
  replace bB := bB.but hb (by simp; omega)
  clear hb hg hg2 B2
  have lA := bA.lt
  have cA := bA.cell
  have fA := bA.frozen
  have lB := bB.lt
  have cB := bB.cell
  have fB := bB.frozen
  go_wp2_with fail
  refine (groups_open _ _ _ _ _ _ _ _ false _ _ _ hg3 (by decide) (by decide) (by decide) (by simp)).mono ?_
  rintro e w4 ⟨⟨rfl, hb⟩, hg⟩
  have hg4 : GSt w4 (wc.heap.size + 3) wc.heap.size (wc.heap.size + 1) (wc.heap.size + 2) 2 2 0 [(1, true), (2, false)] [] [] := hg
  have B4 : Below wc.heap.size wc w4 := B3.trans (hb.four B3.size (Nat.le_refl _) (by omega) (by omega) (by omega))
  clear lA cA fA lB cB fB
  replace bA := bA.but hb (by simp; omega)
  replace bB := bB.but hb (by simp; omega)
  clear hb hg hg3 B3
  have lA := bA.lt
  have cA := bA.cell
  have fA := bA.frozen
  have lB := bB.lt
  have cB := bB.cell
  have fB := bB.frozen
  go_wp2_with fail
  have hf := groups_cluster_new w4 _ _ _ _ 2 2 0 1 a _ S _ _ _ hg4 (hS1.below B4) true rfl (hE1.below B4) hwA hidA (by rw [hkA.out]; simp [Gl.findA]) (by simp) (by decide) (by decide) (by decide) (by decide) (by simp)
  rw [hkA.out] at hf
  refine hf.mono ?_
  clear hf
  rintro e w5 ⟨⟨rfl, hb⟩, hg⟩
  have hg5 : GSt w5 (wc.heap.size + 3) wc.heap.size (wc.heap.size + 1) (wc.heap.size + 2) 2 2 1 [(1, true), (2, false)] [(1, ⟨1, 1, kA, true⟩)] [(1, kA, 1)] := hg
  have B5 : Below wc.heap.size wc w5 := B4.trans (hb.four B4.size (Nat.le_refl _) (by omega) (by omega) (by omega))
  clear lA cA fA lB cB fB
  replace bA := bA.but hb (by simp; omega)
  replace bB := bB.but hb (by simp; omega)
  clear hb hg hg4 B4
  have lA := bA.lt
  have cA := bA.cell
  have fA := bA.frozen
  have lB := bB.lt
  have cB := bB.cell
  have fB := bB.frozen
  go_wp2_with fail
  generalize hW : (w5.alloc (Obj.cells #[.int .i64 1, .int .i64 1, (Value.string ⟨(kA).toArray⟩), .bool true] 43)) = w6
  have hg6 := hg5.below (w' := w6) (by rw [← hW]; (repeat' first | (with_reducible exact Below.refl _ _) | (with_reducible refine Below.setCell ?_ (by first | omega | (simp; done) | (simp; omega)) _) | (with_reducible refine Below.alloc ?_ (by first | omega | (simp; done) | (simp; omega)) _) | refine below_drewN ?_ _ | refine Below.drew ?_ | (refine below_thru (by assumption) ?_ (by first | omega | (simp; done) | (simp; omega))) | exact Below.refl _ _))
  have B6 : Below wc.heap.size wc w6 := by rw [← hW]; exact B5.trans (Below.alloc (Below.refl _ _) B5.size _)
  have bC : Blk w6 w5.heap.size 43 #[.int .i64 1, .int .i64 1, (Value.string ⟨(kA).toArray⟩), .bool true] := by rw [← hW]; exact Blk.new _ _ _
  have nC : wc.heap.size + 3 < w5.heap.size := hg5.blk.lt
  clear lA cA fA lB cB fB
  replace bA : Blk w6 gA 35 #[(Value.bool (a).opaq), (Value.int .i64 (a).id), (Value.string ⟨((a).scheme).toArray⟩), (Value.string ⟨(((a).host).name).toArray⟩), (Value.bool ((a).host).v4), (Value.int .u32 (((a).host).addr : Int)), (Value.int .i64 (a).port)] := by rw [← hW]; exact bA.alloc _
  replace bB : Blk w6 gB 35 #[(Value.bool (b).opaq), (Value.int .i64 (b).id), (Value.string ⟨((b).scheme).toArray⟩), (Value.string ⟨(((b).host).name).toArray⟩), (Value.bool ((b).host).v4), (Value.int .u32 (((b).host).addr : Int)), (Value.int .i64 (b).port)] := by rw [← hW]; exact bB.alloc _
  clear hW hg5 B5
  generalize w5.heap.size = gC at *
  have lA := bA.lt
  have cA := bA.cell
  have fA := bA.frozen
  have lB := bB.lt
  have cB := bB.cell
  have fB := bB.frozen
  have lC := bC.lt
  have cC := bC.cell
  have fC := bC.frozen
  by_cases h12 : kA = kB
  · skip
    have hq : q = true := hk1.out.1 h12
    subst hq
    replace hkB : Hid (Gl.keyOf b true S = kA) := Lib.hid (by rw [hkB.out, h12])
    clear h12 hk1
    have hf := groups_cluster_old w6 _ _ _ _ 2 2 _ 1 b _ S _ _ _ hg6 (hS1.below B6) true rfl (hE1.below B6) hwB hidB 1 (by rw [hkB.out]; simp [Gl.findA])
    replace hf : Calls Tryd.prog 12 #[.pointer (some ⟨wc.heap.size + 3, 0, none⟩), .int .i64 1, (Value.agg #[(Value.bool (b).opaq), (Value.int .i64 (b).id), (Value.string ⟨((b).scheme).toArray⟩), (Value.string ⟨(((b).host).name).toArray⟩), (Value.bool ((b).host).v4), (Value.int .u32 (((b).host).addr : Int)), (Value.int .i64 (b).port)]), .slice vA S.length vc] w6 (Ret w6 (.tuple #[.agg #[.int .i64 1, .int .i64 1, (Value.string ⟨(kA).toArray⟩), .bool true], .int .i64 0])) := hf
    refine hf.mono ?_
    clear hf
    rintro e w7 ⟨rfl, hb⟩
    have hg7 := hg6.below hb
    have B7 : Below wc.heap.size wc w7 := B6.trans (hb.mono B6.size)
    clear lA cA fA lB cB fB lC cC fC
    replace bA := bA.below hb bA.lt
    replace bB := bB.below hb bB.lt
    replace bC := bC.below hb bC.lt
    clear hb hg6 B6
    have lA := bA.lt
    have cA := bA.cell
    have fA := bA.frozen
    have lB := bB.lt
    have cB := bB.cell
    have fB := bB.frozen
    have lC := bC.lt
    have cC := bC.cell
    have fC := bC.frozen
    go_wp2_with fail
    generalize hW : (w7.alloc (Obj.cells #[.int .i64 1, .int .i64 1, (Value.string ⟨(kA).toArray⟩), .bool true] 43)) = w8
    have hg8 := hg7.below (w' := w8) (by rw [← hW]; (repeat' first | (with_reducible exact Below.refl _ _) | (with_reducible refine Below.setCell ?_ (by first | omega | (simp; done) | (simp; omega)) _) | (with_reducible refine Below.alloc ?_ (by first | omega | (simp; done) | (simp; omega)) _) | refine below_drewN ?_ _ | refine Below.drew ?_ | (refine below_thru (by assumption) ?_ (by first | omega | (simp; done) | (simp; omega))) | exact Below.refl _ _))
    have B8 : Below wc.heap.size wc w8 := by rw [← hW]; exact B7.trans (Below.alloc (Below.refl _ _) B7.size _)
    have bD : Blk w8 w7.heap.size 43 #[.int .i64 1, .int .i64 1, (Value.string ⟨(kA).toArray⟩), .bool true] := by rw [← hW]; exact Blk.new _ _ _
    have nD : wc.heap.size + 3 < w7.heap.size := hg7.blk.lt
    clear lA cA fA lB cB fB lC cC fC
    replace bA : Blk w8 gA 35 #[(Value.bool (a).opaq), (Value.int .i64 (a).id), (Value.string ⟨((a).scheme).toArray⟩), (Value.string ⟨(((a).host).name).toArray⟩), (Value.bool ((a).host).v4), (Value.int .u32 (((a).host).addr : Int)), (Value.int .i64 (a).port)] := by rw [← hW]; exact bA.alloc _
    replace bB : Blk w8 gB 35 #[(Value.bool (b).opaq), (Value.int .i64 (b).id), (Value.string ⟨((b).scheme).toArray⟩), (Value.string ⟨(((b).host).name).toArray⟩), (Value.bool ((b).host).v4), (Value.int .u32 (((b).host).addr : Int)), (Value.int .i64 (b).port)] := by rw [← hW]; exact bB.alloc _
    replace bC : Blk w8 gC 43 #[.int .i64 1, .int .i64 1, (Value.string ⟨(kA).toArray⟩), .bool true] := by rw [← hW]; exact bC.alloc _
    clear hW hg7 B7
    generalize w7.heap.size = gD at *
    have lA := bA.lt
    have cA := bA.cell
    have fA := bA.frozen
    have lB := bB.lt
    have cB := bB.cell
    have fB := bB.frozen
    have lC := bC.lt
    have cC := bC.cell
    have fC := bC.frozen
    have lD := bD.lt
    have cD := bD.cell
    have fD := bD.frozen
    have hf := groups_cluster_new w8 _ _ _ _ 2 2 1 2 a _ S _ _ _ hg8 (hS1.below B8) false rfl (hE1.below B8) hwA hidA (by rw [hkC.out]; simp [Gl.findA]) (by simp) (by decide) (by decide) (by decide) (by decide) (by simp)
    rw [hkC.out] at hf
    refine hf.mono ?_
    clear hf
    rintro e w9 ⟨⟨rfl, hb⟩, hg⟩
    have hg9 : GSt w9 (wc.heap.size + 3) wc.heap.size (wc.heap.size + 1) (wc.heap.size + 2) 2 2 2 [(1, true), (2, false)] [(1, ⟨1, 1, kA, true⟩), (2, ⟨2, 2, kC, false⟩)] [(1, kA, 1), (2, kC, 2)] := hg
    have B9 : Below wc.heap.size wc w9 := B8.trans (hb.four B8.size (Nat.le_refl _) (by omega) (by omega) (by omega))
    clear lA cA fA lB cB fB lC cC fC lD cD fD
    replace bA := bA.but hb (by simp; omega)
    replace bB := bB.but hb (by simp; omega)
    replace bC := bC.but hb (by simp; omega)
    replace bD := bD.but hb (by simp; omega)
    clear hb hg hg8 B8
    have lA := bA.lt
    have cA := bA.cell
    have fA := bA.frozen
    have lB := bB.lt
    have cB := bB.cell
    have fB := bB.frozen
    have lC := bC.lt
    have cC := bC.cell
    have fC := bC.frozen
    have lD := bD.lt
    have cD := bD.cell
    have fD := bD.frozen
    go_wp2_with fail
    generalize hW : (w9.alloc (Obj.cells #[.int .i64 2, .int .i64 2, (Value.string ⟨(kC).toArray⟩), .bool false] 43)) = w10
    have hg10 := hg9.below (w' := w10) (by rw [← hW]; (repeat' first | (with_reducible exact Below.refl _ _) | (with_reducible refine Below.setCell ?_ (by first | omega | (simp; done) | (simp; omega)) _) | (with_reducible refine Below.alloc ?_ (by first | omega | (simp; done) | (simp; omega)) _) | refine below_drewN ?_ _ | refine Below.drew ?_ | (refine below_thru (by assumption) ?_ (by first | omega | (simp; done) | (simp; omega))) | exact Below.refl _ _))
    have B10 : Below wc.heap.size wc w10 := by rw [← hW]; exact B9.trans (Below.alloc (Below.refl _ _) B9.size _)
    have bE : Blk w10 w9.heap.size 43 #[.int .i64 2, .int .i64 2, (Value.string ⟨(kC).toArray⟩), .bool false] := by rw [← hW]; exact Blk.new _ _ _
    have nE : wc.heap.size + 3 < w9.heap.size := hg9.blk.lt
    clear lA cA fA lB cB fB lC cC fC lD cD fD
    replace bA : Blk w10 gA 35 #[(Value.bool (a).opaq), (Value.int .i64 (a).id), (Value.string ⟨((a).scheme).toArray⟩), (Value.string ⟨(((a).host).name).toArray⟩), (Value.bool ((a).host).v4), (Value.int .u32 (((a).host).addr : Int)), (Value.int .i64 (a).port)] := by rw [← hW]; exact bA.alloc _
    replace bB : Blk w10 gB 35 #[(Value.bool (b).opaq), (Value.int .i64 (b).id), (Value.string ⟨((b).scheme).toArray⟩), (Value.string ⟨(((b).host).name).toArray⟩), (Value.bool ((b).host).v4), (Value.int .u32 (((b).host).addr : Int)), (Value.int .i64 (b).port)] := by rw [← hW]; exact bB.alloc _
    replace bC : Blk w10 gC 43 #[.int .i64 1, .int .i64 1, (Value.string ⟨(kA).toArray⟩), .bool true] := by rw [← hW]; exact bC.alloc _
    replace bD : Blk w10 gD 43 #[.int .i64 1, .int .i64 1, (Value.string ⟨(kA).toArray⟩), .bool true] := by rw [← hW]; exact bD.alloc _
    clear hW hg9 B9
    generalize w9.heap.size = gE at *
    have lA := bA.lt
    have cA := bA.cell
    have fA := bA.frozen
    have lB := bB.lt
    have cB := bB.cell
    have fB := bB.frozen
    have lC := bC.lt
    have cC := bC.cell
    have fC := bC.frozen
    have lD := bD.lt
    have cD := bD.cell
    have fD := bD.frozen
    have lE := bE.lt
    have cE := bE.cell
    have fE := bE.frozen
    by_cases h34 : kC = kD
    · skip
      have hcd : (es && r) = true := hk2.out.1 h34
      replace hkD : Hid (Gl.keyOf b false S = kC) := Lib.hid (by rw [hkD.out, h34])
      clear h34 hk2
      obtain ⟨rfl, rfl⟩ : es = true ∧ r = true := by simpa using hcd
      clear hcd
      have hf := groups_cluster_old w10 _ _ _ _ 2 2 _ 2 b _ S _ _ _ hg10 (hS1.below B10) false rfl (hE1.below B10) hwB hidB 2 (by rw [hkD.out]; simp [Gl.findA])
      replace hf : Calls Tryd.prog 12 #[.pointer (some ⟨wc.heap.size + 3, 0, none⟩), .int .i64 2, (Value.agg #[(Value.bool (b).opaq), (Value.int .i64 (b).id), (Value.string ⟨((b).scheme).toArray⟩), (Value.string ⟨(((b).host).name).toArray⟩), (Value.bool ((b).host).v4), (Value.int .u32 (((b).host).addr : Int)), (Value.int .i64 (b).port)]), .slice vA S.length vc] w10 (Ret w10 (.tuple #[.agg #[.int .i64 2, .int .i64 2, (Value.string ⟨(kC).toArray⟩), .bool false], .int .i64 0])) := hf
      refine hf.mono ?_
      clear hf
      rintro e w11 ⟨rfl, hb⟩
      have hg11 := hg10.below hb
      have B11 : Below wc.heap.size wc w11 := B10.trans (hb.mono B10.size)
      clear lA cA fA lB cB fB lC cC fC lD cD fD lE cE fE
      replace bA := bA.below hb bA.lt
      replace bB := bB.below hb bB.lt
      replace bC := bC.below hb bC.lt
      replace bD := bD.below hb bD.lt
      replace bE := bE.below hb bE.lt
      clear hb hg10 B10
      have lA := bA.lt
      have cA := bA.cell
      have fA := bA.frozen
      have lB := bB.lt
      have cB := bB.cell
      have fB := bB.frozen
      have lC := bC.lt
      have cC := bC.cell
      have fC := bC.frozen
      have lD := bD.lt
      have cD := bD.cell
      have fD := bD.frozen
      have lE := bE.lt
      have cE := bE.cell
      have fE := bE.frozen
      go_wp2_with fail
      generalize hW : (w11.alloc (Obj.cells #[.int .i64 2, .int .i64 2, (Value.string ⟨(kC).toArray⟩), .bool false] 43)) = w12
      have hg12 := hg11.below (w' := w12) (by rw [← hW]; (repeat' first | (with_reducible exact Below.refl _ _) | (with_reducible refine Below.setCell ?_ (by first | omega | (simp; done) | (simp; omega)) _) | (with_reducible refine Below.alloc ?_ (by first | omega | (simp; done) | (simp; omega)) _) | refine below_drewN ?_ _ | refine Below.drew ?_ | (refine below_thru (by assumption) ?_ (by first | omega | (simp; done) | (simp; omega))) | exact Below.refl _ _))
      have B12 : Below wc.heap.size wc w12 := by rw [← hW]; exact B11.trans (Below.alloc (Below.refl _ _) B11.size _)
      have bF : Blk w12 w11.heap.size 43 #[.int .i64 2, .int .i64 2, (Value.string ⟨(kC).toArray⟩), .bool false] := by rw [← hW]; exact Blk.new _ _ _
      have nF : wc.heap.size + 3 < w11.heap.size := hg11.blk.lt
      clear lA cA fA lB cB fB lC cC fC lD cD fD lE cE fE
      replace bA : Blk w12 gA 35 #[(Value.bool (a).opaq), (Value.int .i64 (a).id), (Value.string ⟨((a).scheme).toArray⟩), (Value.string ⟨(((a).host).name).toArray⟩), (Value.bool ((a).host).v4), (Value.int .u32 (((a).host).addr : Int)), (Value.int .i64 (a).port)] := by rw [← hW]; exact bA.alloc _
      replace bB : Blk w12 gB 35 #[(Value.bool (b).opaq), (Value.int .i64 (b).id), (Value.string ⟨((b).scheme).toArray⟩), (Value.string ⟨(((b).host).name).toArray⟩), (Value.bool ((b).host).v4), (Value.int .u32 (((b).host).addr : Int)), (Value.int .i64 (b).port)] := by rw [← hW]; exact bB.alloc _
      replace bC : Blk w12 gC 43 #[.int .i64 1, .int .i64 1, (Value.string ⟨(kA).toArray⟩), .bool true] := by rw [← hW]; exact bC.alloc _
      replace bD : Blk w12 gD 43 #[.int .i64 1, .int .i64 1, (Value.string ⟨(kA).toArray⟩), .bool true] := by rw [← hW]; exact bD.alloc _
      replace bE : Blk w12 gE 43 #[.int .i64 2, .int .i64 2, (Value.string ⟨(kC).toArray⟩), .bool false] := by rw [← hW]; exact bE.alloc _
      clear hW hg11 B11
      generalize w11.heap.size = gF at *
      have lA := bA.lt
      have cA := bA.cell
      have fA := bA.frozen
      have lB := bB.lt
      have cB := bB.cell
      have fB := bB.frozen
      have lC := bC.lt
      have cC := bC.cell
      have fC := bC.frozen
      have lD := bD.lt
      have cD := bD.cell
      have fD := bD.frozen
      have lE := bE.lt
      have cE := bE.cell
      have fE := bE.frozen
      have lF := bF.lt
      have cF := bF.cell
      have fF := bF.frozen
      have hwk : Below w.heap.size w w12 := hw0.trans (B12.mono hz1)
      have hwkz := hwk.size
      clear hg12 B12 hS1 hE1 bA bB bC bD bE bF hwA hwB hidA hidB hkA hkB hkC hkD hw0 hz1
      go_wp2_with (first | (go_at_call 13; refine ( hsame.out _).mono ?_; rintro e w1 ⟨rfl, hb⟩; obtain ⟨hc, hfz⟩ := bcell hb; have hz := hb.size; (try simp at hz); (try have hz0 : w.heap.size < w1.heap.size := by omega); (try have hz1 : w.heap.size + 1 < w1.heap.size := by omega); (try have hz2 : w.heap.size + 2 < w1.heap.size := by omega); (try have hz3 : w.heap.size + 3 < w1.heap.size := by omega); (try have hcA := fun o => hc w.heap.size o (by first | omega | (simp; omega))); (try have hcB := fun o => hc (w.heap.size + 1) o (by first | omega | (simp; omega))); (try have hcGgA := fun o => hc gA o (by first | omega | (simp; omega))); (try have hfGgA := fun o => hfz gA o (by first | omega | (simp; omega))); (try have hzGgA : gA < w1.heap.size := by omega); (try have hcGgB := fun o => hc gB o (by first | omega | (simp; omega))); (try have hfGgB := fun o => hfz gB o (by first | omega | (simp; omega))); (try have hzGgB : gB < w1.heap.size := by omega); (try have hcGgC := fun o => hc gC o (by first | omega | (simp; omega))); (try have hfGgC := fun o => hfz gC o (by first | omega | (simp; omega))); (try have hzGgC : gC < w1.heap.size := by omega); (try have hcGgD := fun o => hc gD o (by first | omega | (simp; omega))); (try have hfGgD := fun o => hfz gD o (by first | omega | (simp; omega))); (try have hzGgD : gD < w1.heap.size := by omega); (try have hcGgE := fun o => hc gE o (by first | omega | (simp; omega))); (try have hfGgE := fun o => hfz gE o (by first | omega | (simp; omega))); (try have hzGgE : gE < w1.heap.size := by omega); (try have hcGgF := fun o => hc gF o (by first | omega | (simp; omega))); (try have hfGgF := fun o => hfz gF o (by first | omega | (simp; omega))); (try have hzGgF : gF < w1.heap.size := by omega)) | (go_at_call 14; refine ( hsite.out _ (by (repeat' first | (with_reducible exact Below.refl _ _) | (with_reducible refine Below.setCell ?_ (by first | omega | (simp; done) | (simp; omega)) _) | (with_reducible refine Below.alloc ?_ (by first | omega | (simp; done) | (simp; omega)) _) | refine below_drewN ?_ _ | refine Below.drew ?_ | (refine below_thru (by assumption) ?_ (by first | omega | (simp; done) | (simp; omega))) | exact Below.refl _ _))).mono ?_; rintro e w1 ⟨rfl, hb⟩; obtain ⟨hc, hfz⟩ := bcell hb; have hz := hb.size; (try simp at hz); (try have hz0 : w.heap.size < w1.heap.size := by omega); (try have hz1 : w.heap.size + 1 < w1.heap.size := by omega); (try have hz2 : w.heap.size + 2 < w1.heap.size := by omega); (try have hz3 : w.heap.size + 3 < w1.heap.size := by omega); (try have hcA := fun o => hc w.heap.size o (by first | omega | (simp; omega))); (try have hcB := fun o => hc (w.heap.size + 1) o (by first | omega | (simp; omega))); (try have hcGgA := fun o => hc gA o (by first | omega | (simp; omega))); (try have hfGgA := fun o => hfz gA o (by first | omega | (simp; omega))); (try have hzGgA : gA < w1.heap.size := by omega); (try have hcGgB := fun o => hc gB o (by first | omega | (simp; omega))); (try have hfGgB := fun o => hfz gB o (by first | omega | (simp; omega))); (try have hzGgB : gB < w1.heap.size := by omega); (try have hcGgC := fun o => hc gC o (by first | omega | (simp; omega))); (try have hfGgC := fun o => hfz gC o (by first | omega | (simp; omega))); (try have hzGgC : gC < w1.heap.size := by omega); (try have hcGgD := fun o => hc gD o (by first | omega | (simp; omega))); (try have hfGgD := fun o => hfz gD o (by first | omega | (simp; omega))); (try have hzGgD : gD < w1.heap.size := by omega); (try have hcGgE := fun o => hc gE o (by first | omega | (simp; omega))); (try have hfGgE := fun o => hfz gE o (by first | omega | (simp; omega))); (try have hzGgE : gE < w1.heap.size := by omega); (try have hcGgF := fun o => hc gF o (by first | omega | (simp; omega))); (try have hfGgF := fun o => hfz gF o (by first | omega | (simp; omega))); (try have hzGgF : gF < w1.heap.size := by omega)))
      go_ret
      exact ⟨rfl, by (repeat' first | (with_reducible exact Below.refl _ _) | (with_reducible refine Below.setCell ?_ (by first | omega | (simp; done) | (simp; omega)) _) | (with_reducible refine Below.alloc ?_ (by first | omega | (simp; done) | (simp; omega)) _) | refine below_drewN ?_ _ | refine Below.drew ?_ | (refine below_thru (by assumption) ?_ (by first | omega | (simp; done) | (simp; omega))) | exact Below.refl _ _)⟩
    · skip
      have hcd : (es && r) = false := by
        cases hq : (es && r)
        · rfl
        · exact absurd (hk2.out.2 hq) h34
      have h43 : ¬ kD = kC := fun h => h34 h.symm
      clear hk2
      have hf := groups_cluster_new w10 _ _ _ _ 2 2 2 2 b _ S _ _ _ hg10 (hS1.below B10) false rfl (hE1.below B10) hwB hidB (by rw [hkD.out]; simp [Gl.findA, h43]) (by simp) (by decide) (by decide) (by decide) (by decide) (by simp)
      rw [hkD.out] at hf
      refine hf.mono ?_
      clear hf
      rintro e w11 ⟨⟨rfl, hb⟩, hg⟩
      have hg11 : GSt w11 (wc.heap.size + 3) wc.heap.size (wc.heap.size + 1) (wc.heap.size + 2) 2 2 3 [(1, true), (2, false)] [(1, ⟨1, 1, kA, true⟩), (2, ⟨2, 2, kC, false⟩), (3, ⟨3, 2, kD, false⟩)] [(1, kA, 1), (2, kC, 2), (2, kD, 3)] := hg
      have B11 : Below wc.heap.size wc w11 := B10.trans (hb.four B10.size (Nat.le_refl _) (by omega) (by omega) (by omega))
      clear lA cA fA lB cB fB lC cC fC lD cD fD lE cE fE
      replace bA := bA.but hb (by simp; omega)
      replace bB := bB.but hb (by simp; omega)
      replace bC := bC.but hb (by simp; omega)
      replace bD := bD.but hb (by simp; omega)
      replace bE := bE.but hb (by simp; omega)
      clear hb hg hg10 B10
      have lA := bA.lt
      have cA := bA.cell
      have fA := bA.frozen
      have lB := bB.lt
      have cB := bB.cell
      have fB := bB.frozen
      have lC := bC.lt
      have cC := bC.cell
      have fC := bC.frozen
      have lD := bD.lt
      have cD := bD.cell
      have fD := bD.frozen
      have lE := bE.lt
      have cE := bE.cell
      have fE := bE.frozen
      clear h34 h43
      go_wp2_with fail
      generalize hW : (w11.alloc (Obj.cells #[.int .i64 3, .int .i64 2, (Value.string ⟨(kD).toArray⟩), .bool false] 43)) = w12
      have hg12 := hg11.below (w' := w12) (by rw [← hW]; (repeat' first | (with_reducible exact Below.refl _ _) | (with_reducible refine Below.setCell ?_ (by first | omega | (simp; done) | (simp; omega)) _) | (with_reducible refine Below.alloc ?_ (by first | omega | (simp; done) | (simp; omega)) _) | refine below_drewN ?_ _ | refine Below.drew ?_ | (refine below_thru (by assumption) ?_ (by first | omega | (simp; done) | (simp; omega))) | exact Below.refl _ _))
      have B12 : Below wc.heap.size wc w12 := by rw [← hW]; exact B11.trans (Below.alloc (Below.refl _ _) B11.size _)
      have bF : Blk w12 w11.heap.size 43 #[.int .i64 3, .int .i64 2, (Value.string ⟨(kD).toArray⟩), .bool false] := by rw [← hW]; exact Blk.new _ _ _
      have nF : wc.heap.size + 3 < w11.heap.size := hg11.blk.lt
      clear lA cA fA lB cB fB lC cC fC lD cD fD lE cE fE
      replace bA : Blk w12 gA 35 #[(Value.bool (a).opaq), (Value.int .i64 (a).id), (Value.string ⟨((a).scheme).toArray⟩), (Value.string ⟨(((a).host).name).toArray⟩), (Value.bool ((a).host).v4), (Value.int .u32 (((a).host).addr : Int)), (Value.int .i64 (a).port)] := by rw [← hW]; exact bA.alloc _
      replace bB : Blk w12 gB 35 #[(Value.bool (b).opaq), (Value.int .i64 (b).id), (Value.string ⟨((b).scheme).toArray⟩), (Value.string ⟨(((b).host).name).toArray⟩), (Value.bool ((b).host).v4), (Value.int .u32 (((b).host).addr : Int)), (Value.int .i64 (b).port)] := by rw [← hW]; exact bB.alloc _
      replace bC : Blk w12 gC 43 #[.int .i64 1, .int .i64 1, (Value.string ⟨(kA).toArray⟩), .bool true] := by rw [← hW]; exact bC.alloc _
      replace bD : Blk w12 gD 43 #[.int .i64 1, .int .i64 1, (Value.string ⟨(kA).toArray⟩), .bool true] := by rw [← hW]; exact bD.alloc _
      replace bE : Blk w12 gE 43 #[.int .i64 2, .int .i64 2, (Value.string ⟨(kC).toArray⟩), .bool false] := by rw [← hW]; exact bE.alloc _
      clear hW hg11 B11
      generalize w11.heap.size = gF at *
      have lA := bA.lt
      have cA := bA.cell
      have fA := bA.frozen
      have lB := bB.lt
      have cB := bB.cell
      have fB := bB.frozen
      have lC := bC.lt
      have cC := bC.cell
      have fC := bC.frozen
      have lD := bD.lt
      have cD := bD.cell
      have fD := bD.frozen
      have lE := bE.lt
      have cE := bE.cell
      have fE := bE.frozen
      have lF := bF.lt
      have cF := bF.cell
      have fF := bF.frozen
      cases es
      · skip
        have hwk : Below w.heap.size w w12 := hw0.trans (B12.mono hz1)
        have hwkz := hwk.size
        clear hg12 B12 hS1 hE1 bA bB bC bD bE bF hwA hwB hidA hidB hkA hkB hkC hkD hw0 hz1
        go_wp2_with (first | (go_at_call 13; refine ( hsame.out _).mono ?_; rintro e w1 ⟨rfl, hb⟩; obtain ⟨hc, hfz⟩ := bcell hb; have hz := hb.size; (try simp at hz); (try have hz0 : w.heap.size < w1.heap.size := by omega); (try have hz1 : w.heap.size + 1 < w1.heap.size := by omega); (try have hz2 : w.heap.size + 2 < w1.heap.size := by omega); (try have hz3 : w.heap.size + 3 < w1.heap.size := by omega); (try have hcA := fun o => hc w.heap.size o (by first | omega | (simp; omega))); (try have hcB := fun o => hc (w.heap.size + 1) o (by first | omega | (simp; omega))); (try have hcGgA := fun o => hc gA o (by first | omega | (simp; omega))); (try have hfGgA := fun o => hfz gA o (by first | omega | (simp; omega))); (try have hzGgA : gA < w1.heap.size := by omega); (try have hcGgB := fun o => hc gB o (by first | omega | (simp; omega))); (try have hfGgB := fun o => hfz gB o (by first | omega | (simp; omega))); (try have hzGgB : gB < w1.heap.size := by omega); (try have hcGgC := fun o => hc gC o (by first | omega | (simp; omega))); (try have hfGgC := fun o => hfz gC o (by first | omega | (simp; omega))); (try have hzGgC : gC < w1.heap.size := by omega); (try have hcGgD := fun o => hc gD o (by first | omega | (simp; omega))); (try have hfGgD := fun o => hfz gD o (by first | omega | (simp; omega))); (try have hzGgD : gD < w1.heap.size := by omega); (try have hcGgE := fun o => hc gE o (by first | omega | (simp; omega))); (try have hfGgE := fun o => hfz gE o (by first | omega | (simp; omega))); (try have hzGgE : gE < w1.heap.size := by omega); (try have hcGgF := fun o => hc gF o (by first | omega | (simp; omega))); (try have hfGgF := fun o => hfz gF o (by first | omega | (simp; omega))); (try have hzGgF : gF < w1.heap.size := by omega)) | (go_at_call 14; refine ( hsite.out _ (by (repeat' first | (with_reducible exact Below.refl _ _) | (with_reducible refine Below.setCell ?_ (by first | omega | (simp; done) | (simp; omega)) _) | (with_reducible refine Below.alloc ?_ (by first | omega | (simp; done) | (simp; omega)) _) | refine below_drewN ?_ _ | refine Below.drew ?_ | (refine below_thru (by assumption) ?_ (by first | omega | (simp; done) | (simp; omega))) | exact Below.refl _ _))).mono ?_; rintro e w1 ⟨rfl, hb⟩; obtain ⟨hc, hfz⟩ := bcell hb; have hz := hb.size; (try simp at hz); (try have hz0 : w.heap.size < w1.heap.size := by omega); (try have hz1 : w.heap.size + 1 < w1.heap.size := by omega); (try have hz2 : w.heap.size + 2 < w1.heap.size := by omega); (try have hz3 : w.heap.size + 3 < w1.heap.size := by omega); (try have hcA := fun o => hc w.heap.size o (by first | omega | (simp; omega))); (try have hcB := fun o => hc (w.heap.size + 1) o (by first | omega | (simp; omega))); (try have hcGgA := fun o => hc gA o (by first | omega | (simp; omega))); (try have hfGgA := fun o => hfz gA o (by first | omega | (simp; omega))); (try have hzGgA : gA < w1.heap.size := by omega); (try have hcGgB := fun o => hc gB o (by first | omega | (simp; omega))); (try have hfGgB := fun o => hfz gB o (by first | omega | (simp; omega))); (try have hzGgB : gB < w1.heap.size := by omega); (try have hcGgC := fun o => hc gC o (by first | omega | (simp; omega))); (try have hfGgC := fun o => hfz gC o (by first | omega | (simp; omega))); (try have hzGgC : gC < w1.heap.size := by omega); (try have hcGgD := fun o => hc gD o (by first | omega | (simp; omega))); (try have hfGgD := fun o => hfz gD o (by first | omega | (simp; omega))); (try have hzGgD : gD < w1.heap.size := by omega); (try have hcGgE := fun o => hc gE o (by first | omega | (simp; omega))); (try have hfGgE := fun o => hfz gE o (by first | omega | (simp; omega))); (try have hzGgE : gE < w1.heap.size := by omega); (try have hcGgF := fun o => hc gF o (by first | omega | (simp; omega))); (try have hfGgF := fun o => hfz gF o (by first | omega | (simp; omega))); (try have hzGgF : gF < w1.heap.size := by omega)))
        go_ret
        exact ⟨rfl, by (repeat' first | (with_reducible exact Below.refl _ _) | (with_reducible refine Below.setCell ?_ (by first | omega | (simp; done) | (simp; omega)) _) | (with_reducible refine Below.alloc ?_ (by first | omega | (simp; done) | (simp; omega)) _) | refine below_drewN ?_ _ | refine Below.drew ?_ | (refine below_thru (by assumption) ?_ (by first | omega | (simp; done) | (simp; omega))) | exact Below.refl _ _)⟩
      · obtain rfl : r = false := by simpa using hcd
        have hwk : Below w.heap.size w w12 := hw0.trans (B12.mono hz1)
        have hwkz := hwk.size
        clear hg12 B12 hS1 hE1 bA bB bC bD bE bF hwA hwB hidA hidB hkA hkB hkC hkD hw0 hz1
        go_wp2_with (first | (go_at_call 13; refine ( hsame.out _).mono ?_; rintro e w1 ⟨rfl, hb⟩; obtain ⟨hc, hfz⟩ := bcell hb; have hz := hb.size; (try simp at hz); (try have hz0 : w.heap.size < w1.heap.size := by omega); (try have hz1 : w.heap.size + 1 < w1.heap.size := by omega); (try have hz2 : w.heap.size + 2 < w1.heap.size := by omega); (try have hz3 : w.heap.size + 3 < w1.heap.size := by omega); (try have hcA := fun o => hc w.heap.size o (by first | omega | (simp; omega))); (try have hcB := fun o => hc (w.heap.size + 1) o (by first | omega | (simp; omega))); (try have hcGgA := fun o => hc gA o (by first | omega | (simp; omega))); (try have hfGgA := fun o => hfz gA o (by first | omega | (simp; omega))); (try have hzGgA : gA < w1.heap.size := by omega); (try have hcGgB := fun o => hc gB o (by first | omega | (simp; omega))); (try have hfGgB := fun o => hfz gB o (by first | omega | (simp; omega))); (try have hzGgB : gB < w1.heap.size := by omega); (try have hcGgC := fun o => hc gC o (by first | omega | (simp; omega))); (try have hfGgC := fun o => hfz gC o (by first | omega | (simp; omega))); (try have hzGgC : gC < w1.heap.size := by omega); (try have hcGgD := fun o => hc gD o (by first | omega | (simp; omega))); (try have hfGgD := fun o => hfz gD o (by first | omega | (simp; omega))); (try have hzGgD : gD < w1.heap.size := by omega); (try have hcGgE := fun o => hc gE o (by first | omega | (simp; omega))); (try have hfGgE := fun o => hfz gE o (by first | omega | (simp; omega))); (try have hzGgE : gE < w1.heap.size := by omega); (try have hcGgF := fun o => hc gF o (by first | omega | (simp; omega))); (try have hfGgF := fun o => hfz gF o (by first | omega | (simp; omega))); (try have hzGgF : gF < w1.heap.size := by omega)) | (go_at_call 14; refine ( hsite.out _ (by (repeat' first | (with_reducible exact Below.refl _ _) | (with_reducible refine Below.setCell ?_ (by first | omega | (simp; done) | (simp; omega)) _) | (with_reducible refine Below.alloc ?_ (by first | omega | (simp; done) | (simp; omega)) _) | refine below_drewN ?_ _ | refine Below.drew ?_ | (refine below_thru (by assumption) ?_ (by first | omega | (simp; done) | (simp; omega))) | exact Below.refl _ _))).mono ?_; rintro e w1 ⟨rfl, hb⟩; obtain ⟨hc, hfz⟩ := bcell hb; have hz := hb.size; (try simp at hz); (try have hz0 : w.heap.size < w1.heap.size := by omega); (try have hz1 : w.heap.size + 1 < w1.heap.size := by omega); (try have hz2 : w.heap.size + 2 < w1.heap.size := by omega); (try have hz3 : w.heap.size + 3 < w1.heap.size := by omega); (try have hcA := fun o => hc w.heap.size o (by first | omega | (simp; omega))); (try have hcB := fun o => hc (w.heap.size + 1) o (by first | omega | (simp; omega))); (try have hcGgA := fun o => hc gA o (by first | omega | (simp; omega))); (try have hfGgA := fun o => hfz gA o (by first | omega | (simp; omega))); (try have hzGgA : gA < w1.heap.size := by omega); (try have hcGgB := fun o => hc gB o (by first | omega | (simp; omega))); (try have hfGgB := fun o => hfz gB o (by first | omega | (simp; omega))); (try have hzGgB : gB < w1.heap.size := by omega); (try have hcGgC := fun o => hc gC o (by first | omega | (simp; omega))); (try have hfGgC := fun o => hfz gC o (by first | omega | (simp; omega))); (try have hzGgC : gC < w1.heap.size := by omega); (try have hcGgD := fun o => hc gD o (by first | omega | (simp; omega))); (try have hfGgD := fun o => hfz gD o (by first | omega | (simp; omega))); (try have hzGgD : gD < w1.heap.size := by omega); (try have hcGgE := fun o => hc gE o (by first | omega | (simp; omega))); (try have hfGgE := fun o => hfz gE o (by first | omega | (simp; omega))); (try have hzGgE : gE < w1.heap.size := by omega); (try have hcGgF := fun o => hc gF o (by first | omega | (simp; omega))); (try have hfGgF := fun o => hfz gF o (by first | omega | (simp; omega))); (try have hzGgF : gF < w1.heap.size := by omega)))
        go_ret
        exact ⟨rfl, by (repeat' first | (with_reducible exact Below.refl _ _) | (with_reducible refine Below.setCell ?_ (by first | omega | (simp; done) | (simp; omega)) _) | (with_reducible refine Below.alloc ?_ (by first | omega | (simp; done) | (simp; omega)) _) | refine below_drewN ?_ _ | refine Below.drew ?_ | (refine below_thru (by assumption) ?_ (by first | omega | (simp; done) | (simp; omega))) | exact Below.refl _ _)⟩
  · skip
    have hq : q = false := by
      cases hqq : q
      · rfl
      · exact absurd (hk1.out.2 hqq) h12
    have h21 : ¬ kB = kA := fun h => h12 h.symm
    subst hq
    clear hk1
    have hf := groups_cluster_new w6 _ _ _ _ 2 2 1 1 b _ S _ _ _ hg6 (hS1.below B6) true rfl (hE1.below B6) hwB hidB (by rw [hkB.out]; simp [Gl.findA, h21]) (by simp) (by decide) (by decide) (by decide) (by decide) (by simp)
    rw [hkB.out] at hf
    refine hf.mono ?_
    clear hf
    rintro e w7 ⟨⟨rfl, hb⟩, hg⟩
    have hg7 : GSt w7 (wc.heap.size + 3) wc.heap.size (wc.heap.size + 1) (wc.heap.size + 2) 2 2 2 [(1, true), (2, false)] [(1, ⟨1, 1, kA, true⟩), (2, ⟨2, 1, kB, true⟩)] [(1, kA, 1), (1, kB, 2)] := hg
    have B7 : Below wc.heap.size wc w7 := B6.trans (hb.four B6.size (Nat.le_refl _) (by omega) (by omega) (by omega))
    clear lA cA fA lB cB fB lC cC fC
    replace bA := bA.but hb (by simp; omega)
    replace bB := bB.but hb (by simp; omega)
    replace bC := bC.but hb (by simp; omega)
    clear hb hg hg6 B6
    have lA := bA.lt
    have cA := bA.cell
    have fA := bA.frozen
    have lB := bB.lt
    have cB := bB.cell
    have fB := bB.frozen
    have lC := bC.lt
    have cC := bC.cell
    have fC := bC.frozen
    clear h12 h21
    go_wp2_with fail
    generalize hW : (w7.alloc (Obj.cells #[.int .i64 2, .int .i64 1, (Value.string ⟨(kB).toArray⟩), .bool true] 43)) = w8
    have hg8 := hg7.below (w' := w8) (by rw [← hW]; (repeat' first | (with_reducible exact Below.refl _ _) | (with_reducible refine Below.setCell ?_ (by first | omega | (simp; done) | (simp; omega)) _) | (with_reducible refine Below.alloc ?_ (by first | omega | (simp; done) | (simp; omega)) _) | refine below_drewN ?_ _ | refine Below.drew ?_ | (refine below_thru (by assumption) ?_ (by first | omega | (simp; done) | (simp; omega))) | exact Below.refl _ _))
    have B8 : Below wc.heap.size wc w8 := by rw [← hW]; exact B7.trans (Below.alloc (Below.refl _ _) B7.size _)
    have bD : Blk w8 w7.heap.size 43 #[.int .i64 2, .int .i64 1, (Value.string ⟨(kB).toArray⟩), .bool true] := by rw [← hW]; exact Blk.new _ _ _
    have nD : wc.heap.size + 3 < w7.heap.size := hg7.blk.lt
    clear lA cA fA lB cB fB lC cC fC
    replace bA : Blk w8 gA 35 #[(Value.bool (a).opaq), (Value.int .i64 (a).id), (Value.string ⟨((a).scheme).toArray⟩), (Value.string ⟨(((a).host).name).toArray⟩), (Value.bool ((a).host).v4), (Value.int .u32 (((a).host).addr : Int)), (Value.int .i64 (a).port)] := by rw [← hW]; exact bA.alloc _
    replace bB : Blk w8 gB 35 #[(Value.bool (b).opaq), (Value.int .i64 (b).id), (Value.string ⟨((b).scheme).toArray⟩), (Value.string ⟨(((b).host).name).toArray⟩), (Value.bool ((b).host).v4), (Value.int .u32 (((b).host).addr : Int)), (Value.int .i64 (b).port)] := by rw [← hW]; exact bB.alloc _
    replace bC : Blk w8 gC 43 #[.int .i64 1, .int .i64 1, (Value.string ⟨(kA).toArray⟩), .bool true] := by rw [← hW]; exact bC.alloc _
    clear hW hg7 B7
    generalize w7.heap.size = gD at *
    have lA := bA.lt
    have cA := bA.cell
    have fA := bA.frozen
    have lB := bB.lt
    have cB := bB.cell
    have fB := bB.frozen
    have lC := bC.lt
    have cC := bC.cell
    have fC := bC.frozen
    have lD := bD.lt
    have cD := bD.cell
    have fD := bD.frozen
    have hf := groups_cluster_new w8 _ _ _ _ 2 2 2 2 a _ S _ _ _ hg8 (hS1.below B8) false rfl (hE1.below B8) hwA hidA (by rw [hkC.out]; simp [Gl.findA]) (by simp) (by decide) (by decide) (by decide) (by decide) (by simp)
    rw [hkC.out] at hf
    refine hf.mono ?_
    clear hf
    rintro e w9 ⟨⟨rfl, hb⟩, hg⟩
    have hg9 : GSt w9 (wc.heap.size + 3) wc.heap.size (wc.heap.size + 1) (wc.heap.size + 2) 2 2 3 [(1, true), (2, false)] [(1, ⟨1, 1, kA, true⟩), (2, ⟨2, 1, kB, true⟩), (3, ⟨3, 2, kC, false⟩)] [(1, kA, 1), (1, kB, 2), (2, kC, 3)] := hg
    have B9 : Below wc.heap.size wc w9 := B8.trans (hb.four B8.size (Nat.le_refl _) (by omega) (by omega) (by omega))
    clear lA cA fA lB cB fB lC cC fC lD cD fD
    replace bA := bA.but hb (by simp; omega)
    replace bB := bB.but hb (by simp; omega)
    replace bC := bC.but hb (by simp; omega)
    replace bD := bD.but hb (by simp; omega)
    clear hb hg hg8 B8
    have lA := bA.lt
    have cA := bA.cell
    have fA := bA.frozen
    have lB := bB.lt
    have cB := bB.cell
    have fB := bB.frozen
    have lC := bC.lt
    have cC := bC.cell
    have fC := bC.frozen
    have lD := bD.lt
    have cD := bD.cell
    have fD := bD.frozen
    go_wp2_with fail
    generalize hW : (w9.alloc (Obj.cells #[.int .i64 3, .int .i64 2, (Value.string ⟨(kC).toArray⟩), .bool false] 43)) = w10
    have hg10 := hg9.below (w' := w10) (by rw [← hW]; (repeat' first | (with_reducible exact Below.refl _ _) | (with_reducible refine Below.setCell ?_ (by first | omega | (simp; done) | (simp; omega)) _) | (with_reducible refine Below.alloc ?_ (by first | omega | (simp; done) | (simp; omega)) _) | refine below_drewN ?_ _ | refine Below.drew ?_ | (refine below_thru (by assumption) ?_ (by first | omega | (simp; done) | (simp; omega))) | exact Below.refl _ _))
    have B10 : Below wc.heap.size wc w10 := by rw [← hW]; exact B9.trans (Below.alloc (Below.refl _ _) B9.size _)
    have bE : Blk w10 w9.heap.size 43 #[.int .i64 3, .int .i64 2, (Value.string ⟨(kC).toArray⟩), .bool false] := by rw [← hW]; exact Blk.new _ _ _
    have nE : wc.heap.size + 3 < w9.heap.size := hg9.blk.lt
    clear lA cA fA lB cB fB lC cC fC lD cD fD
    replace bA : Blk w10 gA 35 #[(Value.bool (a).opaq), (Value.int .i64 (a).id), (Value.string ⟨((a).scheme).toArray⟩), (Value.string ⟨(((a).host).name).toArray⟩), (Value.bool ((a).host).v4), (Value.int .u32 (((a).host).addr : Int)), (Value.int .i64 (a).port)] := by rw [← hW]; exact bA.alloc _
    replace bB : Blk w10 gB 35 #[(Value.bool (b).opaq), (Value.int .i64 (b).id), (Value.string ⟨((b).scheme).toArray⟩), (Value.string ⟨(((b).host).name).toArray⟩), (Value.bool ((b).host).v4), (Value.int .u32 (((b).host).addr : Int)), (Value.int .i64 (b).port)] := by rw [← hW]; exact bB.alloc _
    replace bC : Blk w10 gC 43 #[.int .i64 1, .int .i64 1, (Value.string ⟨(kA).toArray⟩), .bool true] := by rw [← hW]; exact bC.alloc _
    replace bD : Blk w10 gD 43 #[.int .i64 2, .int .i64 1, (Value.string ⟨(kB).toArray⟩), .bool true] := by rw [← hW]; exact bD.alloc _
    clear hW hg9 B9
    generalize w9.heap.size = gE at *
    have lA := bA.lt
    have cA := bA.cell
    have fA := bA.frozen
    have lB := bB.lt
    have cB := bB.cell
    have fB := bB.frozen
    have lC := bC.lt
    have cC := bC.cell
    have fC := bC.frozen
    have lD := bD.lt
    have cD := bD.cell
    have fD := bD.frozen
    have lE := bE.lt
    have cE := bE.cell
    have fE := bE.frozen
    by_cases h34 : kC = kD
    · skip
      have hcd : (es && r) = true := hk2.out.1 h34
      replace hkD : Hid (Gl.keyOf b false S = kC) := Lib.hid (by rw [hkD.out, h34])
      clear h34 hk2
      obtain ⟨rfl, rfl⟩ : es = true ∧ r = true := by simpa using hcd
      clear hcd
      have hf := groups_cluster_old w10 _ _ _ _ 2 2 _ 2 b _ S _ _ _ hg10 (hS1.below B10) false rfl (hE1.below B10) hwB hidB 3 (by rw [hkD.out]; simp [Gl.findA])
      replace hf : Calls Tryd.prog 12 #[.pointer (some ⟨wc.heap.size + 3, 0, none⟩), .int .i64 2, (Value.agg #[(Value.bool (b).opaq), (Value.int .i64 (b).id), (Value.string ⟨((b).scheme).toArray⟩), (Value.string ⟨(((b).host).name).toArray⟩), (Value.bool ((b).host).v4), (Value.int .u32 (((b).host).addr : Int)), (Value.int .i64 (b).port)]), .slice vA S.length vc] w10 (Ret w10 (.tuple #[.agg #[.int .i64 3, .int .i64 2, (Value.string ⟨(kC).toArray⟩), .bool false], .int .i64 0])) := hf
      refine hf.mono ?_
      clear hf
      rintro e w11 ⟨rfl, hb⟩
      have hg11 := hg10.below hb
      have B11 : Below wc.heap.size wc w11 := B10.trans (hb.mono B10.size)
      clear lA cA fA lB cB fB lC cC fC lD cD fD lE cE fE
      replace bA := bA.below hb bA.lt
      replace bB := bB.below hb bB.lt
      replace bC := bC.below hb bC.lt
      replace bD := bD.below hb bD.lt
      replace bE := bE.below hb bE.lt
      clear hb hg10 B10
      have lA := bA.lt
      have cA := bA.cell
      have fA := bA.frozen
      have lB := bB.lt
      have cB := bB.cell
      have fB := bB.frozen
      have lC := bC.lt
      have cC := bC.cell
      have fC := bC.frozen
      have lD := bD.lt
      have cD := bD.cell
      have fD := bD.frozen
      have lE := bE.lt
      have cE := bE.cell
      have fE := bE.frozen
      go_wp2_with fail
      generalize hW : (w11.alloc (Obj.cells #[.int .i64 3, .int .i64 2, (Value.string ⟨(kC).toArray⟩), .bool false] 43)) = w12
      have hg12 := hg11.below (w' := w12) (by rw [← hW]; (repeat' first | (with_reducible exact Below.refl _ _) | (with_reducible refine Below.setCell ?_ (by first | omega | (simp; done) | (simp; omega)) _) | (with_reducible refine Below.alloc ?_ (by first | omega | (simp; done) | (simp; omega)) _) | refine below_drewN ?_ _ | refine Below.drew ?_ | (refine below_thru (by assumption) ?_ (by first | omega | (simp; done) | (simp; omega))) | exact Below.refl _ _))
      have B12 : Below wc.heap.size wc w12 := by rw [← hW]; exact B11.trans (Below.alloc (Below.refl _ _) B11.size _)
      have bF : Blk w12 w11.heap.size 43 #[.int .i64 3, .int .i64 2, (Value.string ⟨(kC).toArray⟩), .bool false] := by rw [← hW]; exact Blk.new _ _ _
      have nF : wc.heap.size + 3 < w11.heap.size := hg11.blk.lt
      clear lA cA fA lB cB fB lC cC fC lD cD fD lE cE fE
      replace bA : Blk w12 gA 35 #[(Value.bool (a).opaq), (Value.int .i64 (a).id), (Value.string ⟨((a).scheme).toArray⟩), (Value.string ⟨(((a).host).name).toArray⟩), (Value.bool ((a).host).v4), (Value.int .u32 (((a).host).addr : Int)), (Value.int .i64 (a).port)] := by rw [← hW]; exact bA.alloc _
      replace bB : Blk w12 gB 35 #[(Value.bool (b).opaq), (Value.int .i64 (b).id), (Value.string ⟨((b).scheme).toArray⟩), (Value.string ⟨(((b).host).name).toArray⟩), (Value.bool ((b).host).v4), (Value.int .u32 (((b).host).addr : Int)), (Value.int .i64 (b).port)] := by rw [← hW]; exact bB.alloc _
      replace bC : Blk w12 gC 43 #[.int .i64 1, .int .i64 1, (Value.string ⟨(kA).toArray⟩), .bool true] := by rw [← hW]; exact bC.alloc _
      replace bD : Blk w12 gD 43 #[.int .i64 2, .int .i64 1, (Value.string ⟨(kB).toArray⟩), .bool true] := by rw [← hW]; exact bD.alloc _
      replace bE : Blk w12 gE 43 #[.int .i64 3, .int .i64 2, (Value.string ⟨(kC).toArray⟩), .bool false] := by rw [← hW]; exact bE.alloc _
      clear hW hg11 B11
      generalize w11.heap.size = gF at *
      have lA := bA.lt
      have cA := bA.cell
      have fA := bA.frozen
      have lB := bB.lt
      have cB := bB.cell
      have fB := bB.frozen
      have lC := bC.lt
      have cC := bC.cell
      have fC := bC.frozen
      have lD := bD.lt
      have cD := bD.cell
      have fD := bD.frozen
      have lE := bE.lt
      have cE := bE.cell
      have fE := bE.frozen
      have lF := bF.lt
      have cF := bF.cell
      have fF := bF.frozen
      have hwk : Below w.heap.size w w12 := hw0.trans (B12.mono hz1)
      have hwkz := hwk.size
      clear hg12 B12 hS1 hE1 bA bB bC bD bE bF hwA hwB hidA hidB hkA hkB hkC hkD hw0 hz1
      go_wp2_with (first | (go_at_call 13; refine ( hsame.out _).mono ?_; rintro e w1 ⟨rfl, hb⟩; obtain ⟨hc, hfz⟩ := bcell hb; have hz := hb.size; (try simp at hz); (try have hz0 : w.heap.size < w1.heap.size := by omega); (try have hz1 : w.heap.size + 1 < w1.heap.size := by omega); (try have hz2 : w.heap.size + 2 < w1.heap.size := by omega); (try have hz3 : w.heap.size + 3 < w1.heap.size := by omega); (try have hcA := fun o => hc w.heap.size o (by first | omega | (simp; omega))); (try have hcB := fun o => hc (w.heap.size + 1) o (by first | omega | (simp; omega))); (try have hcGgA := fun o => hc gA o (by first | omega | (simp; omega))); (try have hfGgA := fun o => hfz gA o (by first | omega | (simp; omega))); (try have hzGgA : gA < w1.heap.size := by omega); (try have hcGgB := fun o => hc gB o (by first | omega | (simp; omega))); (try have hfGgB := fun o => hfz gB o (by first | omega | (simp; omega))); (try have hzGgB : gB < w1.heap.size := by omega); (try have hcGgC := fun o => hc gC o (by first | omega | (simp; omega))); (try have hfGgC := fun o => hfz gC o (by first | omega | (simp; omega))); (try have hzGgC : gC < w1.heap.size := by omega); (try have hcGgD := fun o => hc gD o (by first | omega | (simp; omega))); (try have hfGgD := fun o => hfz gD o (by first | omega | (simp; omega))); (try have hzGgD : gD < w1.heap.size := by omega); (try have hcGgE := fun o => hc gE o (by first | omega | (simp; omega))); (try have hfGgE := fun o => hfz gE o (by first | omega | (simp; omega))); (try have hzGgE : gE < w1.heap.size := by omega); (try have hcGgF := fun o => hc gF o (by first | omega | (simp; omega))); (try have hfGgF := fun o => hfz gF o (by first | omega | (simp; omega))); (try have hzGgF : gF < w1.heap.size := by omega)) | (go_at_call 14; refine ( hsite.out _ (by (repeat' first | (with_reducible exact Below.refl _ _) | (with_reducible refine Below.setCell ?_ (by first | omega | (simp; done) | (simp; omega)) _) | (with_reducible refine Below.alloc ?_ (by first | omega | (simp; done) | (simp; omega)) _) | refine below_drewN ?_ _ | refine Below.drew ?_ | (refine below_thru (by assumption) ?_ (by first | omega | (simp; done) | (simp; omega))) | exact Below.refl _ _))).mono ?_; rintro e w1 ⟨rfl, hb⟩; obtain ⟨hc, hfz⟩ := bcell hb; have hz := hb.size; (try simp at hz); (try have hz0 : w.heap.size < w1.heap.size := by omega); (try have hz1 : w.heap.size + 1 < w1.heap.size := by omega); (try have hz2 : w.heap.size + 2 < w1.heap.size := by omega); (try have hz3 : w.heap.size + 3 < w1.heap.size := by omega); (try have hcA := fun o => hc w.heap.size o (by first | omega | (simp; omega))); (try have hcB := fun o => hc (w.heap.size + 1) o (by first | omega | (simp; omega))); (try have hcGgA := fun o => hc gA o (by first | omega | (simp; omega))); (try have hfGgA := fun o => hfz gA o (by first | omega | (simp; omega))); (try have hzGgA : gA < w1.heap.size := by omega); (try have hcGgB := fun o => hc gB o (by first | omega | (simp; omega))); (try have hfGgB := fun o => hfz gB o (by first | omega | (simp; omega))); (try have hzGgB : gB < w1.heap.size := by omega); (try have hcGgC := fun o => hc gC o (by first | omega | (simp; omega))); (try have hfGgC := fun o => hfz gC o (by first | omega | (simp; omega))); (try have hzGgC : gC < w1.heap.size := by omega); (try have hcGgD := fun o => hc gD o (by first | omega | (simp; omega))); (try have hfGgD := fun o => hfz gD o (by first | omega | (simp; omega))); (try have hzGgD : gD < w1.heap.size := by omega); (try have hcGgE := fun o => hc gE o (by first | omega | (simp; omega))); (try have hfGgE := fun o => hfz gE o (by first | omega | (simp; omega))); (try have hzGgE : gE < w1.heap.size := by omega); (try have hcGgF := fun o => hc gF o (by first | omega | (simp; omega))); (try have hfGgF := fun o => hfz gF o (by first | omega | (simp; omega))); (try have hzGgF : gF < w1.heap.size := by omega)))
      go_ret
      exact ⟨rfl, by (repeat' first | (with_reducible exact Below.refl _ _) | (with_reducible refine Below.setCell ?_ (by first | omega | (simp; done) | (simp; omega)) _) | (with_reducible refine Below.alloc ?_ (by first | omega | (simp; done) | (simp; omega)) _) | refine below_drewN ?_ _ | refine Below.drew ?_ | (refine below_thru (by assumption) ?_ (by first | omega | (simp; done) | (simp; omega))) | exact Below.refl _ _)⟩
    · skip
      have hcd : (es && r) = false := by
        cases hq : (es && r)
        · rfl
        · exact absurd (hk2.out.2 hq) h34
      have h43 : ¬ kD = kC := fun h => h34 h.symm
      clear hk2
      have hf := groups_cluster_new w10 _ _ _ _ 2 2 3 2 b _ S _ _ _ hg10 (hS1.below B10) false rfl (hE1.below B10) hwB hidB (by rw [hkD.out]; simp [Gl.findA, h43]) (by simp) (by decide) (by decide) (by decide) (by decide) (by simp)
      rw [hkD.out] at hf
      refine hf.mono ?_
      clear hf
      rintro e w11 ⟨⟨rfl, hb⟩, hg⟩
      have hg11 : GSt w11 (wc.heap.size + 3) wc.heap.size (wc.heap.size + 1) (wc.heap.size + 2) 2 2 4 [(1, true), (2, false)] [(1, ⟨1, 1, kA, true⟩), (2, ⟨2, 1, kB, true⟩), (3, ⟨3, 2, kC, false⟩), (4, ⟨4, 2, kD, false⟩)] [(1, kA, 1), (1, kB, 2), (2, kC, 3), (2, kD, 4)] := hg
      have B11 : Below wc.heap.size wc w11 := B10.trans (hb.four B10.size (Nat.le_refl _) (by omega) (by omega) (by omega))
      clear lA cA fA lB cB fB lC cC fC lD cD fD lE cE fE
      replace bA := bA.but hb (by simp; omega)
      replace bB := bB.but hb (by simp; omega)
      replace bC := bC.but hb (by simp; omega)
      replace bD := bD.but hb (by simp; omega)
      replace bE := bE.but hb (by simp; omega)
      clear hb hg hg10 B10
      have lA := bA.lt
      have cA := bA.cell
      have fA := bA.frozen
      have lB := bB.lt
      have cB := bB.cell
      have fB := bB.frozen
      have lC := bC.lt
      have cC := bC.cell
      have fC := bC.frozen
      have lD := bD.lt
      have cD := bD.cell
      have fD := bD.frozen
      have lE := bE.lt
      have cE := bE.cell
      have fE := bE.frozen
      clear h34 h43
      go_wp2_with fail
      generalize hW : (w11.alloc (Obj.cells #[.int .i64 4, .int .i64 2, (Value.string ⟨(kD).toArray⟩), .bool false] 43)) = w12
      have hg12 := hg11.below (w' := w12) (by rw [← hW]; (repeat' first | (with_reducible exact Below.refl _ _) | (with_reducible refine Below.setCell ?_ (by first | omega | (simp; done) | (simp; omega)) _) | (with_reducible refine Below.alloc ?_ (by first | omega | (simp; done) | (simp; omega)) _) | refine below_drewN ?_ _ | refine Below.drew ?_ | (refine below_thru (by assumption) ?_ (by first | omega | (simp; done) | (simp; omega))) | exact Below.refl _ _))
      have B12 : Below wc.heap.size wc w12 := by rw [← hW]; exact B11.trans (Below.alloc (Below.refl _ _) B11.size _)
      have bF : Blk w12 w11.heap.size 43 #[.int .i64 4, .int .i64 2, (Value.string ⟨(kD).toArray⟩), .bool false] := by rw [← hW]; exact Blk.new _ _ _
      have nF : wc.heap.size + 3 < w11.heap.size := hg11.blk.lt
      clear lA cA fA lB cB fB lC cC fC lD cD fD lE cE fE
      replace bA : Blk w12 gA 35 #[(Value.bool (a).opaq), (Value.int .i64 (a).id), (Value.string ⟨((a).scheme).toArray⟩), (Value.string ⟨(((a).host).name).toArray⟩), (Value.bool ((a).host).v4), (Value.int .u32 (((a).host).addr : Int)), (Value.int .i64 (a).port)] := by rw [← hW]; exact bA.alloc _
      replace bB : Blk w12 gB 35 #[(Value.bool (b).opaq), (Value.int .i64 (b).id), (Value.string ⟨((b).scheme).toArray⟩), (Value.string ⟨(((b).host).name).toArray⟩), (Value.bool ((b).host).v4), (Value.int .u32 (((b).host).addr : Int)), (Value.int .i64 (b).port)] := by rw [← hW]; exact bB.alloc _
      replace bC : Blk w12 gC 43 #[.int .i64 1, .int .i64 1, (Value.string ⟨(kA).toArray⟩), .bool true] := by rw [← hW]; exact bC.alloc _
      replace bD : Blk w12 gD 43 #[.int .i64 2, .int .i64 1, (Value.string ⟨(kB).toArray⟩), .bool true] := by rw [← hW]; exact bD.alloc _
      replace bE : Blk w12 gE 43 #[.int .i64 3, .int .i64 2, (Value.string ⟨(kC).toArray⟩), .bool false] := by rw [← hW]; exact bE.alloc _
      clear hW hg11 B11
      generalize w11.heap.size = gF at *
      have lA := bA.lt
      have cA := bA.cell
      have fA := bA.frozen
      have lB := bB.lt
      have cB := bB.cell
      have fB := bB.frozen
      have lC := bC.lt
      have cC := bC.cell
      have fC := bC.frozen
      have lD := bD.lt
      have cD := bD.cell
      have fD := bD.frozen
      have lE := bE.lt
      have cE := bE.cell
      have fE := bE.frozen
      have lF := bF.lt
      have cF := bF.cell
      have fF := bF.frozen
      cases es
      · skip
        have hwk : Below w.heap.size w w12 := hw0.trans (B12.mono hz1)
        have hwkz := hwk.size
        clear hg12 B12 hS1 hE1 bA bB bC bD bE bF hwA hwB hidA hidB hkA hkB hkC hkD hw0 hz1
        go_wp2_with (first | (go_at_call 13; refine ( hsame.out _).mono ?_; rintro e w1 ⟨rfl, hb⟩; obtain ⟨hc, hfz⟩ := bcell hb; have hz := hb.size; (try simp at hz); (try have hz0 : w.heap.size < w1.heap.size := by omega); (try have hz1 : w.heap.size + 1 < w1.heap.size := by omega); (try have hz2 : w.heap.size + 2 < w1.heap.size := by omega); (try have hz3 : w.heap.size + 3 < w1.heap.size := by omega); (try have hcA := fun o => hc w.heap.size o (by first | omega | (simp; omega))); (try have hcB := fun o => hc (w.heap.size + 1) o (by first | omega | (simp; omega))); (try have hcGgA := fun o => hc gA o (by first | omega | (simp; omega))); (try have hfGgA := fun o => hfz gA o (by first | omega | (simp; omega))); (try have hzGgA : gA < w1.heap.size := by omega); (try have hcGgB := fun o => hc gB o (by first | omega | (simp; omega))); (try have hfGgB := fun o => hfz gB o (by first | omega | (simp; omega))); (try have hzGgB : gB < w1.heap.size := by omega); (try have hcGgC := fun o => hc gC o (by first | omega | (simp; omega))); (try have hfGgC := fun o => hfz gC o (by first | omega | (simp; omega))); (try have hzGgC : gC < w1.heap.size := by omega); (try have hcGgD := fun o => hc gD o (by first | omega | (simp; omega))); (try have hfGgD := fun o => hfz gD o (by first | omega | (simp; omega))); (try have hzGgD : gD < w1.heap.size := by omega); (try have hcGgE := fun o => hc gE o (by first | omega | (simp; omega))); (try have hfGgE := fun o => hfz gE o (by first | omega | (simp; omega))); (try have hzGgE : gE < w1.heap.size := by omega); (try have hcGgF := fun o => hc gF o (by first | omega | (simp; omega))); (try have hfGgF := fun o => hfz gF o (by first | omega | (simp; omega))); (try have hzGgF : gF < w1.heap.size := by omega)) | (go_at_call 14; refine ( hsite.out _ (by (repeat' first | (with_reducible exact Below.refl _ _) | (with_reducible refine Below.setCell ?_ (by first | omega | (simp; done) | (simp; omega)) _) | (with_reducible refine Below.alloc ?_ (by first | omega | (simp; done) | (simp; omega)) _) | refine below_drewN ?_ _ | refine Below.drew ?_ | (refine below_thru (by assumption) ?_ (by first | omega | (simp; done) | (simp; omega))) | exact Below.refl _ _))).mono ?_; rintro e w1 ⟨rfl, hb⟩; obtain ⟨hc, hfz⟩ := bcell hb; have hz := hb.size; (try simp at hz); (try have hz0 : w.heap.size < w1.heap.size := by omega); (try have hz1 : w.heap.size + 1 < w1.heap.size := by omega); (try have hz2 : w.heap.size + 2 < w1.heap.size := by omega); (try have hz3 : w.heap.size + 3 < w1.heap.size := by omega); (try have hcA := fun o => hc w.heap.size o (by first | omega | (simp; omega))); (try have hcB := fun o => hc (w.heap.size + 1) o (by first | omega | (simp; omega))); (try have hcGgA := fun o => hc gA o (by first | omega | (simp; omega))); (try have hfGgA := fun o => hfz gA o (by first | omega | (simp; omega))); (try have hzGgA : gA < w1.heap.size := by omega); (try have hcGgB := fun o => hc gB o (by first | omega | (simp; omega))); (try have hfGgB := fun o => hfz gB o (by first | omega | (simp; omega))); (try have hzGgB : gB < w1.heap.size := by omega); (try have hcGgC := fun o => hc gC o (by first | omega | (simp; omega))); (try have hfGgC := fun o => hfz gC o (by first | omega | (simp; omega))); (try have hzGgC : gC < w1.heap.size := by omega); (try have hcGgD := fun o => hc gD o (by first | omega | (simp; omega))); (try have hfGgD := fun o => hfz gD o (by first | omega | (simp; omega))); (try have hzGgD : gD < w1.heap.size := by omega); (try have hcGgE := fun o => hc gE o (by first | omega | (simp; omega))); (try have hfGgE := fun o => hfz gE o (by first | omega | (simp; omega))); (try have hzGgE : gE < w1.heap.size := by omega); (try have hcGgF := fun o => hc gF o (by first | omega | (simp; omega))); (try have hfGgF := fun o => hfz gF o (by first | omega | (simp; omega))); (try have hzGgF : gF < w1.heap.size := by omega)))
        go_ret
        exact ⟨rfl, by (repeat' first | (with_reducible exact Below.refl _ _) | (with_reducible refine Below.setCell ?_ (by first | omega | (simp; done) | (simp; omega)) _) | (with_reducible refine Below.alloc ?_ (by first | omega | (simp; done) | (simp; omega)) _) | refine below_drewN ?_ _ | refine Below.drew ?_ | (refine below_thru (by assumption) ?_ (by first | omega | (simp; done) | (simp; omega))) | exact Below.refl _ _)⟩
      · obtain rfl : r = false := by simpa using hcd
        have hwk : Below w.heap.size w w12 := hw0.trans (B12.mono hz1)
        have hwkz := hwk.size
        clear hg12 B12 hS1 hE1 bA bB bC bD bE bF hwA hwB hidA hidB hkA hkB hkC hkD hw0 hz1
        go_wp2_with (first | (go_at_call 13; refine ( hsame.out _).mono ?_; rintro e w1 ⟨rfl, hb⟩; obtain ⟨hc, hfz⟩ := bcell hb; have hz := hb.size; (try simp at hz); (try have hz0 : w.heap.size < w1.heap.size := by omega); (try have hz1 : w.heap.size + 1 < w1.heap.size := by omega); (try have hz2 : w.heap.size + 2 < w1.heap.size := by omega); (try have hz3 : w.heap.size + 3 < w1.heap.size := by omega); (try have hcA := fun o => hc w.heap.size o (by first | omega | (simp; omega))); (try have hcB := fun o => hc (w.heap.size + 1) o (by first | omega | (simp; omega))); (try have hcGgA := fun o => hc gA o (by first | omega | (simp; omega))); (try have hfGgA := fun o => hfz gA o (by first | omega | (simp; omega))); (try have hzGgA : gA < w1.heap.size := by omega); (try have hcGgB := fun o => hc gB o (by first | omega | (simp; omega))); (try have hfGgB := fun o => hfz gB o (by first | omega | (simp; omega))); (try have hzGgB : gB < w1.heap.size := by omega); (try have hcGgC := fun o => hc gC o (by first | omega | (simp; omega))); (try have hfGgC := fun o => hfz gC o (by first | omega | (simp; omega))); (try have hzGgC : gC < w1.heap.size := by omega); (try have hcGgD := fun o => hc gD o (by first | omega | (simp; omega))); (try have hfGgD := fun o => hfz gD o (by first | omega | (simp; omega))); (try have hzGgD : gD < w1.heap.size := by omega); (try have hcGgE := fun o => hc gE o (by first | omega | (simp; omega))); (try have hfGgE := fun o => hfz gE o (by first | omega | (simp; omega))); (try have hzGgE : gE < w1.heap.size := by omega); (try have hcGgF := fun o => hc gF o (by first | omega | (simp; omega))); (try have hfGgF := fun o => hfz gF o (by first | omega | (simp; omega))); (try have hzGgF : gF < w1.heap.size := by omega)) | (go_at_call 14; refine ( hsite.out _ (by (repeat' first | (with_reducible exact Below.refl _ _) | (with_reducible refine Below.setCell ?_ (by first | omega | (simp; done) | (simp; omega)) _) | (with_reducible refine Below.alloc ?_ (by first | omega | (simp; done) | (simp; omega)) _) | refine below_drewN ?_ _ | refine Below.drew ?_ | (refine below_thru (by assumption) ?_ (by first | omega | (simp; done) | (simp; omega))) | exact Below.refl _ _))).mono ?_; rintro e w1 ⟨rfl, hb⟩; obtain ⟨hc, hfz⟩ := bcell hb; have hz := hb.size; (try simp at hz); (try have hz0 : w.heap.size < w1.heap.size := by omega); (try have hz1 : w.heap.size + 1 < w1.heap.size := by omega); (try have hz2 : w.heap.size + 2 < w1.heap.size := by omega); (try have hz3 : w.heap.size + 3 < w1.heap.size := by omega); (try have hcA := fun o => hc w.heap.size o (by first | omega | (simp; omega))); (try have hcB := fun o => hc (w.heap.size + 1) o (by first | omega | (simp; omega))); (try have hcGgA := fun o => hc gA o (by first | omega | (simp; omega))); (try have hfGgA := fun o => hfz gA o (by first | omega | (simp; omega))); (try have hzGgA : gA < w1.heap.size := by omega); (try have hcGgB := fun o => hc gB o (by first | omega | (simp; omega))); (try have hfGgB := fun o => hfz gB o (by first | omega | (simp; omega))); (try have hzGgB : gB < w1.heap.size := by omega); (try have hcGgC := fun o => hc gC o (by first | omega | (simp; omega))); (try have hfGgC := fun o => hfz gC o (by first | omega | (simp; omega))); (try have hzGgC : gC < w1.heap.size := by omega); (try have hcGgD := fun o => hc gD o (by first | omega | (simp; omega))); (try have hfGgD := fun o => hfz gD o (by first | omega | (simp; omega))); (try have hzGgD : gD < w1.heap.size := by omega); (try have hcGgE := fun o => hc gE o (by first | omega | (simp; omega))); (try have hfGgE := fun o => hfz gE o (by first | omega | (simp; omega))); (try have hzGgE : gE < w1.heap.size := by omega); (try have hcGgF := fun o => hc gF o (by first | omega | (simp; omega))); (try have hfGgF := fun o => hfz gF o (by first | omega | (simp; omega))); (try have hzGgF : gF < w1.heap.size := by omega)))
        go_ret
        exact ⟨rfl, by (repeat' first | (with_reducible exact Below.refl _ _) | (with_reducible refine Below.setCell ?_ (by first | omega | (simp; done) | (simp; omega)) _) | (with_reducible refine Below.alloc ?_ (by first | omega | (simp; done) | (simp; omega)) _) | refine below_drewN ?_ _ | refine Below.drew ?_ | (refine below_thru (by assumption) ?_ (by first | omega | (simp; done) | (simp; omega))) | exact Below.refl _ _)⟩
end Go.Proofs.YtplbkocokknnoaaDoor
