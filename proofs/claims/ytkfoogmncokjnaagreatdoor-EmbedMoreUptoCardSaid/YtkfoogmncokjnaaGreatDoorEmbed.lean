/- embed: what a parent's embedder policy says of a child's. -/
import Derived.Test.YtkfoogmncokjnaaGreatDoorOne
namespace Go.Proofs.YtkfoogmncokjnaaGreatDoor
open Go.RowKit
attribute [local irreducible] Calls
def Gl.isolates (k : Int) : Bool := (k == 1) || (k == 2)
structure Gl.Embedder where
  value : Int
  to_ : List UInt8
  report : Int
  reportT : List UInt8
def Gl.coepOk (p c : Int) : Bool := Gl.isolates c || !Gl.isolates p
def Gl.coepOnly (p c : Int) : Bool := !Gl.isolates c && Gl.isolates p
theorem isolates_true {k : Int} (h : k = 1 ∨ k = 2) : Gl.isolates k = true := by
  rcases h with rfl | rfl <;> rfl
theorem isolates_false {k : Int} (h : ¬ (k = 1 ∨ k = 2)) : Gl.isolates k = false := by
  simp [Gl.isolates] at *
  exact h
set_option maxRecDepth 100000 in
theorem coop_isolates (k : Int) (w : World) : Calls Tryz.prog 38 #[.int .i64 k] w (Ret w (.bool (Gl.isolates k))) := by
  generalize hR : Gl.isolates k = R
  unfold Gl.isolates at hR
  replace hR := Lib.hid hR
  go_enter Tryz.func38, Tryz.ntmps38
  go_wp2
  all_goals
    go_ret
    refine ⟨?_, by (repeat' first | (with_reducible exact Below.refl _ _) | (with_reducible refine Below.setCell ?_ (by first | omega | (simp; done) | (simp; omega)) _) | (with_reducible refine Below.alloc ?_ (by first | omega | (simp; done) | (simp; omega)) _) | refine below_drewN ?_ _ | refine Below.drew ?_ | (refine below_thru (by assumption) ?_ (by first | omega | (simp; done) | (simp; omega))) | exact Below.refl _ _)⟩
    rw [← hR.out]
    simp_all
set_option maxRecDepth 100000 in
set_option maxHeartbeats 1000000 in
theorem embed_coep (pv pr cv cr : Int) (pt pu ct cu : List UInt8) (w : World) :
    Calls Tryz.prog 19 #[.agg #[.int .i64 pv, (Value.string ⟨(pt).toArray⟩), .int .i64 pr, (Value.string ⟨(pu).toArray⟩)], .agg #[.int .i64 cv, (Value.string ⟨(ct).toArray⟩), .int .i64 cr, (Value.string ⟨(cu).toArray⟩)]] w (Ret w (.agg #[.bool (Gl.coepOk pv cv), .bool (!Gl.coepOk pv cv), .bool (Gl.coepOnly pr cv)])) := by
  unfold Gl.coepOk Gl.coepOnly
  have h1 := fun W => coop_isolates cv W
  have h2 := fun W => coop_isolates pv W
  have h3 := fun W => coop_isolates pr W
  generalize Gl.isolates cv = a at *
  generalize Gl.isolates pv = b at *
  generalize Gl.isolates pr = c at *
  replace h1 := Lib.hid h1
  replace h2 := Lib.hid h2
  replace h3 := Lib.hid h3
  go_enter Tryz.func19, Tryz.ntmps19
  cases a <;> cases b <;> cases c <;> (go_wp2_with (first | (go_at_call 38; refine ( h1.out _).mono ?_; rintro e w1 ⟨rfl, hb⟩; obtain ⟨hc, hfz⟩ := bcell hb; have hz := hb.size; (try simp at hz); (try have hz0 : w.heap.size < w1.heap.size := by omega); (try have hz1 : w.heap.size + 1 < w1.heap.size := by omega); (try have hz2 : w.heap.size + 2 < w1.heap.size := by omega); (try have hz3 : w.heap.size + 3 < w1.heap.size := by omega); (try have hcA := fun o => hc w.heap.size o (by first | omega | (simp; omega))); (try have hcB := fun o => hc (w.heap.size + 1) o (by first | omega | (simp; omega)))) | (go_at_call 38; refine ( h2.out _).mono ?_; rintro e w1 ⟨rfl, hb⟩; obtain ⟨hc, hfz⟩ := bcell hb; have hz := hb.size; (try simp at hz); (try have hz0 : w.heap.size < w1.heap.size := by omega); (try have hz1 : w.heap.size + 1 < w1.heap.size := by omega); (try have hz2 : w.heap.size + 2 < w1.heap.size := by omega); (try have hz3 : w.heap.size + 3 < w1.heap.size := by omega); (try have hcA := fun o => hc w.heap.size o (by first | omega | (simp; omega))); (try have hcB := fun o => hc (w.heap.size + 1) o (by first | omega | (simp; omega)))) | (go_at_call 38; refine ( h3.out _).mono ?_; rintro e w1 ⟨rfl, hb⟩; obtain ⟨hc, hfz⟩ := bcell hb; have hz := hb.size; (try simp at hz); (try have hz0 : w.heap.size < w1.heap.size := by omega); (try have hz1 : w.heap.size + 1 < w1.heap.size := by omega); (try have hz2 : w.heap.size + 2 < w1.heap.size := by omega); (try have hz3 : w.heap.size + 3 < w1.heap.size := by omega); (try have hcA := fun o => hc w.heap.size o (by first | omega | (simp; omega))); (try have hcB := fun o => hc (w.heap.size + 1) o (by first | omega | (simp; omega))))))
  all_goals refine bodyPost_ret (v := .agg #[.bool _, .bool _, .bool _]) (by simp only [results, Tryz.results19]; go_simp; exact ⟨rfl, rfl, rfl⟩) rfl ?_
  all_goals exact ⟨rfl, by (repeat' first | (with_reducible exact Below.refl _ _) | (with_reducible refine Below.setCell ?_ (by first | omega | (simp; done) | (simp; omega)) _) | (with_reducible refine Below.alloc ?_ (by first | omega | (simp; done) | (simp; omega)) _) | refine below_drewN ?_ _ | refine Below.drew ?_ | (refine below_thru (by assumption) ?_ (by first | omega | (simp; done) | (simp; omega))) | exact Below.refl _ _)⟩
end Go.Proofs.YtkfoogmncokjnaaGreatDoor
