/- glacislaw18.EmbedPolicies. -/
import Derived.Test.YtkfoogmncokjnaaGreatDoorAwake18
import Derived.Test.YtkfoogmncokjnaaGreatDoorRefEmbed
namespace Go.Proofs.YtkfoogmncokjnaaGreatDoor
open Go.RowKit
attribute [local irreducible] Calls
set_option maxRecDepth 100000 in
set_option maxHeartbeats 4000000 in
theorem law18_policies (pv pr cv cr : Int) (pt pu ct cu : List UInt8) (w : World) (hE : Env w) : Calls Tryz.prog 4 #[.agg #[.int .i64 pv, (Value.string ⟨(pt).toArray⟩), .int .i64 pr, (Value.string ⟨(pu).toArray⟩)], .agg #[.int .i64 cv, (Value.string ⟨(ct).toArray⟩), .int .i64 cr, (Value.string ⟨(cu).toArray⟩)]] w (Ret w (.bool true)) := by
  have hup := fun W (hW : Below w.heap.size w W) => awake18 W (hE.below hW)
  replace hup := Lib.hid hup
  have h1 := fun W => embed_coep pv pr cv cr pt pu ct cu W
  have h2 := fun W => ref18_coep pv pr cv cr pt pu ct cu W
  generalize Gl.coepOk pv cv = a at *
  generalize Gl.coepOnly pr cv = b at *
  replace h1 := Lib.hid h1
  replace h2 := Lib.hid h2
  go_enter Tryz.func4, Tryz.ntmps4
  go_upto_region 1 with fail
  generalize hW0 : ((w.alloc (Obj.cells #[.int .i64 pv, (Value.string ⟨(pt).toArray⟩), .int .i64 pr, (Value.string ⟨(pu).toArray⟩)] 24)).alloc (Obj.cells #[.int .i64 cv, (Value.string ⟨(ct).toArray⟩), .int .i64 cr, (Value.string ⟨(cu).toArray⟩)] 24)) = W0
  have hw0 : Below w.heap.size w W0 := by rw [← hW0]; (repeat' first | (with_reducible exact Below.refl _ _) | (with_reducible refine Below.setCell ?_ (by first | omega | (simp; done) | (simp; omega)) _) | (with_reducible refine Below.alloc ?_ (by first | omega | (simp; done) | (simp; omega)) _) | refine below_drewN ?_ _ | refine Below.drew ?_ | (refine below_thru (by assumption) ?_ (by first | omega | (simp; done) | (simp; omega))) | exact Below.refl _ _)
  have hBP : Blk W0 (w.heap.size) 24 #[.int .i64 pv, (Value.string ⟨(pt).toArray⟩), .int .i64 pr, (Value.string ⟨(pu).toArray⟩)] := by rw [← hW0]; exact (Blk.alloc (Blk.new _ _ _) _)
  have hBC : Blk W0 (w.heap.size + 1) 24 #[.int .i64 cv, (Value.string ⟨(ct).toArray⟩), .int .i64 cr, (Value.string ⟨(cu).toArray⟩)] := by rw [← hW0]; exact (by have := Blk.new (w.alloc (Obj.cells #[.int .i64 pv, (Value.string ⟨(pt).toArray⟩), .int .i64 pr, (Value.string ⟨(pu).toArray⟩)] 24)) 24 #[.int .i64 cv, (Value.string ⟨(ct).toArray⟩), .int .i64 cr, (Value.string ⟨(cu).toArray⟩)]; simpa [World.size_alloc] using this)
  clear hW0
  have hwz := hw0.size
  have hPl := hBP.lt
  have hPc := hBP.cell
  have hPf := hBP.frozen
  have hCl := hBC.lt
  have hCc := hBC.cell
  have hCf := hBC.frozen
  go_upto_region 2 with (go_at_call 12; refine ( hup.out _ (by (repeat' first | (with_reducible exact Below.refl _ _) | (with_reducible refine Below.setCell ?_ (by first | omega | (simp; done) | (simp; omega)) _) | (with_reducible refine Below.alloc ?_ (by first | omega | (simp; done) | (simp; omega)) _) | refine below_drewN ?_ _ | refine Below.drew ?_ | (refine below_thru (by assumption) ?_ (by first | omega | (simp; done) | (simp; omega))) | exact Below.refl _ _))).mono ?_; rintro e w1 ⟨rfl, hb⟩; obtain ⟨hc, hfz⟩ := bcell hb; have hz := hb.size; (try simp at hz); (try have hz0 : w.heap.size < w1.heap.size := by omega); (try have hz1 : w.heap.size + 1 < w1.heap.size := by omega); (try have hz2 : w.heap.size + 2 < w1.heap.size := by omega); (try have hz3 : w.heap.size + 3 < w1.heap.size := by omega); (try have hcA := fun o => hc w.heap.size o (by first | omega | (simp; omega))); (try have hcB := fun o => hc (w.heap.size + 1) o (by first | omega | (simp; omega))))
  go_region_held3 (fun W => Below w.heap.size w W ∧ w.heap.size ≤ W.heap.size ∧ w.heap.size < W.heap.size ∧ w.heap.size + 1 < W.heap.size ∧ (∀ n0, W.cell? ⟨w.heap.size, n0, none⟩ = (#[.int .i64 pv, (Value.string ⟨(pt).toArray⟩), .int .i64 pr, (Value.string ⟨(pu).toArray⟩)] : Array Value)[n0]?) ∧ (∀ n0, W.cell? ⟨w.heap.size + 1, n0, none⟩ = (#[.int .i64 cv, (Value.string ⟨(ct).toArray⟩), .int .i64 cr, (Value.string ⟨(cu).toArray⟩)] : Array Value)[n0]?)) ((refine ⟨by (repeat' first | (with_reducible exact Below.refl _ _) | (with_reducible refine Below.setCell ?_ (by first | omega | (simp; done) | (simp; omega)) _) | (with_reducible refine Below.alloc ?_ (by first | omega | (simp; done) | (simp; omega)) _) | refine below_drewN ?_ _ | refine Below.drew ?_ | (refine below_thru (by assumption) ?_ (by first | omega | (simp; done) | (simp; omega))) | exact Below.refl _ _), by first | omega | (simp; omega), by first | omega | (simp; omega), by first | omega | (simp; omega), by exact Blk.cell (t := 24) (by (repeat' first | (with_reducible assumption) | (with_reducible exact Blk.new _ _ _) | (with_reducible refine Blk.drew_ ?_) | (with_reducible refine Blk.alloc ?_ _) | (refine Blk.below ?_ (by assumption) (by first | omega | (simp; done) | (simp; omega))))), by exact Blk.cell (t := 24) (by (repeat' first | (with_reducible assumption) | (with_reducible exact Blk.new _ _ _) | (with_reducible refine Blk.drew_ ?_) | (with_reducible refine Blk.alloc ?_ _) | (refine Blk.below ?_ (by assumption) (by first | omega | (simp; done) | (simp; omega)))))⟩)) (first | (go_at_call 19; refine ( h1.out _).mono ?_; rintro e w1 ⟨rfl, hb⟩; obtain ⟨hc, hfz⟩ := bcell hb; have hz := hb.size; (try simp at hz); (try have hz0 : w.heap.size < w1.heap.size := by omega); (try have hz1 : w.heap.size + 1 < w1.heap.size := by omega); (try have hz2 : w.heap.size + 2 < w1.heap.size := by omega); (try have hz3 : w.heap.size + 3 < w1.heap.size := by omega); (try have hcA := fun o => hc w.heap.size o (by first | omega | (simp; omega))); (try have hcB := fun o => hc (w.heap.size + 1) o (by first | omega | (simp; omega)))) | (go_at_call 20; refine ( h2.out _).mono ?_; rintro e w1 ⟨rfl, hb⟩; obtain ⟨hc, hfz⟩ := bcell hb; have hz := hb.size; (try simp at hz); (try have hz0 : w.heap.size < w1.heap.size := by omega); (try have hz1 : w.heap.size + 1 < w1.heap.size := by omega); (try have hz2 : w.heap.size + 2 < w1.heap.size := by omega); (try have hz3 : w.heap.size + 3 < w1.heap.size := by omega); (try have hcA := fun o => hc w.heap.size o (by first | omega | (simp; omega))); (try have hcB := fun o => hc (w.heap.size + 1) o (by first | omega | (simp; omega)))))
  all_goals go_wp2_with fail
  all_goals go_ret
  all_goals exact ⟨rfl, by (repeat' first | (with_reducible exact Below.refl _ _) | (with_reducible refine Below.setCell ?_ (by first | omega | (simp; done) | (simp; omega)) _) | (with_reducible refine Below.alloc ?_ (by first | omega | (simp; done) | (simp; omega)) _) | refine below_drewN ?_ _ | refine Below.drew ?_ | (refine below_thru (by assumption) ?_ (by first | omega | (simp; done) | (simp; omega))) | exact Below.refl _ _)⟩
end Go.Proofs.YtkfoogmncokjnaaGreatDoor
