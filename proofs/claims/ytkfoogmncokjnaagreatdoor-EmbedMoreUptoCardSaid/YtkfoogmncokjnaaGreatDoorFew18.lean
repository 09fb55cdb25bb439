/- glacislaw18: few. -/
import Derived.Test.YtkfoogmncokjnaaGreatDoorSlots
namespace Go.Proofs.YtkfoogmncokjnaaGreatDoor
open Go.RowKit
attribute [local irreducible] Calls
def few18P (o : Gl.Origin) (As : List Gl.Origin) : Bool := decide (As.length ≤ 40) && decide (o.host.name.length ≤ 1000) && As.all (fun a => decide (a.host.name.length ≤ 1000))
theorem few18_out {o : Gl.Origin} {As : List Gl.Origin} (h : few18P o As = true) : As.length ≤ 40 ∧ o.host.name.length ≤ 1000 ∧ ∀ a ∈ As, a.host.name.length ≤ 1000 := by
  unfold few18P at h
  simp only [Bool.and_eq_true, decide_eq_true_eq, List.all_eq_true] at h
  exact ⟨h.1.1, h.1.2, h.2⟩
set_option maxRecDepth 100000 in
set_option maxHeartbeats 1000000 in
theorem law18_few (o : Gl.Origin) (va : Value) (As : List Gl.Origin) (w : World) (hA : Origs w va As) :
    Calls Tryz.prog 13 #[(Value.agg #[(Value.bool (o).opaq), (Value.int .i64 (o).id), (Value.string ⟨((o).scheme).toArray⟩), (Value.string ⟨(((o).host).name).toArray⟩), (Value.bool ((o).host).v4), (Value.int .u32 (((o).host).addr : Int)), (Value.int .i64 (o).port)]), va] w (Ret w (.bool (few18P o As))) := by
  generalize hR : few18P o As = R
  unfold few18P at hR
  have H2 := Lib.hid hA
  obtain ⟨A2, c2, rfl⟩ := hA.form
  clear hA
  by_cases hl : As.length ≤ 40 ∧ o.host.name.length ≤ 1000
  · obtain ⟨hl1, hl2⟩ := hl
    replace hR : Hid (As.all (fun a => decide (a.host.name.length ≤ 1000)) = R) := Lib.hid (by rw [← hR]; simp [hl1, hl2])
    go_enter Tryz.func13, Tryz.ntmps13
    go_wp2
    generalize hW0 : World.alloc _ _ = W0
    have hw0 : Below w.heap.size w W0 := by rw [← hW0]; (repeat' first | (with_reducible exact Below.refl _ _) | (with_reducible refine Below.setCell ?_ (by first | omega | (simp; done) | (simp; omega)) _) | (with_reducible refine Below.alloc ?_ (by first | omega | (simp; done) | (simp; omega)) _) | refine below_drewN ?_ _ | refine Below.drew ?_ | (refine below_thru (by assumption) ?_ (by first | omega | (simp; done) | (simp; omega))) | exact Below.refl _ _)
    clear hW0
    go_loop [5] (fun i => ∃ m : Nat, m ≤ As.length ∧ i = .int .i64 m ∧ Hid ((As.drop m).all (fun a => decide (a.host.name.length ≤ 1000)) = R)) (fun i => As.length - (intOf i).toNat)
    case atStart => exact ⟨0, Nat.zero_le _, rfl, hR⟩
    case round =>
      obtain ⟨m, hm, rfl, hr⟩ := hrel
      by_cases hmt : m < As.length
      · obtain ⟨sb, so, sd, he, hsB, hcell⟩ := H2.out.cells m hmt
        injection he with he1 he2 he3
        subst he1 he3
        have hcw : ∀ i, i < 7 → W0.cell? ⟨sb, so + m * 7 + i, none⟩ = (ocells As[m])[i]? := fun i hi => (hw0.cell (p := ⟨sb, so + m * 7 + i, none⟩) hsB).trans (hcell i hi)
        rw [drop_consX hmt, List.all_cons] at hr
        generalize As[m] = x at *
        have c3 := hcw 3 (by decide)
        simp only [ocells, List.getElem?_toArray, List.getElem?_cons_zero, List.getElem?_cons_succ] at c3
        clear hcell hcw
        by_cases hx : 1000 < x.host.name.length
        · have hf : Hid (R = false) := Lib.hid (by rw [← hr.out, decide_eq_false (by omega : ¬ x.host.name.length ≤ 1000)]; rfl)
          clear hr
          go_wp2
          go_ret
          exact ⟨by rw [hf.out] <;> rfl, by (repeat' first | (with_reducible exact Below.refl _ _) | (with_reducible refine Below.setCell ?_ (by first | omega | (simp; done) | (simp; omega)) _) | (with_reducible refine Below.alloc ?_ (by first | omega | (simp; done) | (simp; omega)) _) | refine below_drewN ?_ _ | refine Below.drew ?_ | (refine below_thru (by assumption) ?_ (by first | omega | (simp; done) | (simp; omega))) | exact Below.refl _ _)⟩
        · have hf : Hid ((As.drop (m + 1)).all (fun a => decide (a.host.name.length ≤ 1000)) = R) := Lib.hid (by rw [← hr.out, decide_eq_true (by omega : x.host.name.length ≤ 1000), Bool.true_and])
          clear hr
          go_wp2
          go_round
          case rel => exact ⟨m + 1, by omega, by go_num, hf⟩
          case measure => simp [intOf]; omega
      · have hf : Hid (R = true) := Lib.hid (by rw [← hr.out, List.drop_eq_nil_of_le (by omega)]; rfl)
        clear hr
        go_wp2
        go_ret
        exact ⟨by rw [hf.out] <;> rfl, by (repeat' first | (with_reducible exact Below.refl _ _) | (with_reducible refine Below.setCell ?_ (by first | omega | (simp; done) | (simp; omega)) _) | (with_reducible refine Below.alloc ?_ (by first | omega | (simp; done) | (simp; omega)) _) | refine below_drewN ?_ _ | refine Below.drew ?_ | (refine below_thru (by assumption) ?_ (by first | omega | (simp; done) | (simp; omega))) | exact Below.refl _ _)⟩
  · have hf : Hid (R = false) := Lib.hid (by rw [← hR]; simp; intro h h'; omega)
    by_cases h1 : 40 < As.length
    · go_enter Tryz.func13, Tryz.ntmps13
      go_wp2
      go_ret
      exact ⟨by rw [hf.out] <;> rfl, by (repeat' first | (with_reducible exact Below.refl _ _) | (with_reducible refine Below.setCell ?_ (by first | omega | (simp; done) | (simp; omega)) _) | (with_reducible refine Below.alloc ?_ (by first | omega | (simp; done) | (simp; omega)) _) | refine below_drewN ?_ _ | refine Below.drew ?_ | (refine below_thru (by assumption) ?_ (by first | omega | (simp; done) | (simp; omega))) | exact Below.refl _ _)⟩
    · have h2 : 1000 < o.host.name.length := by omega
      go_enter Tryz.func13, Tryz.ntmps13
      go_wp2
      go_ret
      exact ⟨by rw [hf.out] <;> rfl, by (repeat' first | (with_reducible exact Below.refl _ _) | (with_reducible refine Below.setCell ?_ (by first | omega | (simp; done) | (simp; omega)) _) | (with_reducible refine Below.alloc ?_ (by first | omega | (simp; done) | (simp; omega)) _) | refine below_drewN ?_ _ | refine Below.drew ?_ | (refine below_thru (by assumption) ?_ (by first | omega | (simp; done) | (simp; omega))) | exact Below.refl _ _)⟩
end Go.Proofs.YtkfoogmncokjnaaGreatDoor
