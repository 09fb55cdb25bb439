/- glacislaw11: small, few. -/
import Derived.Test.YtplbkocokknnoaaDoorAwake11
import Derived.Test.YtplbkocokknnoaaDoorSlots
namespace Go.Proofs.YtplbkocokknnoaaDoor
open Go.RowKit
attribute [local irreducible] Calls
def smallO (o : Gl.Origin) : Bool := decide (o.host.name.length ≤ 1000) && decide (o.scheme.length ≤ 1000)
set_option maxRecDepth 100000 in
theorem law11_small (o : Gl.Origin) (w : World) : Calls Tryd.prog 17 #[(Value.agg #[(Value.bool (o).opaq), (Value.int .i64 (o).id), (Value.string ⟨((o).scheme).toArray⟩), (Value.string ⟨(((o).host).name).toArray⟩), (Value.bool ((o).host).v4), (Value.int .u32 (((o).host).addr : Int)), (Value.int .i64 (o).port)])] w (Ret w (.bool (smallO o))) := by
  generalize hR : smallO o = R
  unfold smallO at hR
  obtain ⟨q, i, s, h, p⟩ := o
  simp only at hR ⊢
  replace hR := Lib.hid hR
  go_enter Tryd.func17, Tryd.ntmps17
  go_wp2
  all_goals
    go_ret
    refine ret_boolB (by (repeat' first | (with_reducible exact Below.refl _ _) | (with_reducible refine Below.setCell ?_ (by first | omega | (simp; done) | (simp; omega)) _) | (with_reducible refine Below.alloc ?_ (by first | omega | (simp; done) | (simp; omega)) _) | refine below_drewN ?_ _ | refine Below.drew ?_ | (refine below_thru (by assumption) ?_ (by first | omega | (simp; done) | (simp; omega))) | exact Below.refl _ _)) ?_
    rw [← hR.out]
    simp only [Bool.and_eq_true, decide_eq_true_eq, Bool.false_eq_true, false_iff]
    omega
def fewP (L : List (List UInt8)) (As : List Gl.Origin) : Bool := decide (L.length ≤ 50) && decide (As.length ≤ 50) && L.all (fun s => decide (s.length ≤ 300)) && As.all smallO
set_option maxRecDepth 100000 in
set_option maxHeartbeats 1000000 in
theorem law11_few (has box : Bool) (v vb va : Value) (L : List (List UInt8)) (As : List Gl.Origin) (w : World) (hv : Strs w w.heap.size v L) (hA : Origs w va As) :
    Calls Tryd.prog 16 #[.agg #[.bool has, v, .bool box, vb], va] w (Ret w (.bool (fewP L As))) := by
  generalize hR : fewP L As = R
  unfold fewP at hR
  have H := Lib.hid hv
  have H2 := Lib.hid hA
  obtain ⟨A, c, rfl, hc1, hc2, _⟩ := hv
  obtain ⟨A2, c2, rfl⟩ := hA.form
  clear hA
  unfold maxLen at hc2
  by_cases hl : L.length ≤ 50 ∧ As.length ≤ 50
  · obtain ⟨hl1, hl2⟩ := hl
    replace hR : Hid ((L.all (fun s => decide (s.length ≤ 300)) && As.all smallO) = R) := Lib.hid (by rw [← hR]; simp [hl1, hl2])
    go_enter Tryd.func16, Tryd.ntmps16
    go_wp2
    generalize hW0 : World.alloc _ _ = W0
    have hw0 : Below w.heap.size w W0 := by rw [← hW0]; (repeat' first | (with_reducible exact Below.refl _ _) | (with_reducible refine Below.setCell ?_ (by first | omega | (simp; done) | (simp; omega)) _) | (with_reducible refine Below.alloc ?_ (by first | omega | (simp; done) | (simp; omega)) _) | refine below_drewN ?_ _ | refine Below.drew ?_ | (refine below_thru (by assumption) ?_ (by first | omega | (simp; done) | (simp; omega))) | exact Below.refl _ _)
    have hB0 : Blk W0 w.heap.size 50 #[.bool has, .slice A L.length c, .bool box, vb] := by rw [← hW0]; exact Blk.new _ _ _
    clear hW0
    have b1 := hB0.lt
    have b2 := hB0.cell
    have b3 := hB0.frozen
    go_loop [5] (fun i => ∃ k : Nat, k ≤ L.length ∧ i = .int .i64 k ∧ Hid (((L.drop k).all (fun s => decide (s.length ≤ 300)) && As.all smallO) = R)) (fun i => L.length - (intOf i).toNat)
    case atStart => exact ⟨0, Nat.zero_le _, rfl, hR⟩
    case round =>
      obtain ⟨k, hk, rfl, hr⟩ := hrel
      by_cases hlt : k < L.length
      · obtain ⟨sb, so, sd, he, hsB, hcell⟩ := H.out.cells k hlt
        injection he with he1 he2 he3
        subst he1 he3
        have hck := (hw0.cell (p := ⟨sb, so + k, none⟩) hsB).trans (hcell k hlt)
        clear hcell
        rw [drop_consL hlt, List.all_cons] at hr
        by_cases hx : 300 < L[k].length
        · have hf : Hid (R = false) := Lib.hid (by rw [← hr.out]; simp; intro h; omega)
          clear hr
          go_wp2
          go_ret
          exact ⟨by rw [hf.out] <;> rfl, hw0⟩
        · have hf : Hid (((L.drop (k + 1)).all (fun s => decide (s.length ≤ 300)) && As.all smallO) = R) := Lib.hid (by rw [← hr.out, decide_eq_true (by omega : L[k].length ≤ 300), Bool.true_and])
          clear hr
          go_wp2
          go_round
          case rel => exact ⟨k + 1, by omega, by go_num, hf⟩
          case measure => simp [intOf]; omega
      · have hf : Hid (As.all smallO = R) := Lib.hid (by rw [← hr.out, List.drop_eq_nil_of_le (by omega)]; rfl)
        clear hr hR
        go_wp2
        go_loopw [6] (fun i wr => ∃ m : Nat, m ≤ As.length ∧ i = .int .i64 m ∧ Below w.heap.size w wr ∧ Hid ((As.drop m).all smallO = R)) (fun i _ => As.length - (intOf i).toNat)
        case atStart => exact ⟨0, Nat.zero_le _, rfl, hw0, hf⟩
        case round =>
          obtain ⟨m, hm, rfl, hw1, hr⟩ := hrel
          have hw1z := hw1.size
          by_cases hmt : m < As.length
          · obtain ⟨sb, so, sd, he, hsB, hcell⟩ := H2.out.cells m hmt
            injection he with he1 he2 he3
            subst he1 he3
            have hcw : ∀ i, i < 7 → wr.cell? ⟨sb, so + m * 7 + i, none⟩ = (ocells As[m])[i]? := fun i hi => (hw1.cell (p := ⟨sb, so + m * 7 + i, none⟩) hsB).trans (hcell i hi)
            have hsm := fun W => law11_small As[m] W
            rw [drop_consX hmt, List.all_cons] at hr
            generalize As[m] = x at *
            generalize smallO x = q at *
            have c0 := hcw 0 (by decide)
            have c1 := hcw 1 (by decide)
            have c2 := hcw 2 (by decide)
            have c3 := hcw 3 (by decide)
            have c4 := hcw 4 (by decide)
            have c5 := hcw 5 (by decide)
            have c6 := hcw 6 (by decide)
            simp only [Nat.add_zero, ocells, List.getElem?_toArray, List.getElem?_cons_zero, List.getElem?_cons_succ] at c0 c1 c2 c3 c4 c5 c6
            clear hcell hcw
            replace hsm := Lib.hid hsm
            cases q
            · have hf : Hid (R = false) := Lib.hid (by rw [← hr.out]; rfl)
              clear hr
              go_wp2_with (go_at_call 17; refine ( hsm.out _).mono ?_; rintro e w1 ⟨rfl, hb⟩; obtain ⟨hc, hfz⟩ := bcell hb; have hz := hb.size; (try simp at hz); (try have hz0 : w.heap.size < w1.heap.size := by omega); (try have hz1 : w.heap.size + 1 < w1.heap.size := by omega); (try have hz2 : w.heap.size + 2 < w1.heap.size := by omega); (try have hz3 : w.heap.size + 3 < w1.heap.size := by omega); (try have hcA := fun o => hc w.heap.size o (by first | omega | (simp; omega))); (try have hcB := fun o => hc (w.heap.size + 1) o (by first | omega | (simp; omega))))
              go_ret
              exact ⟨by rw [hf.out] <;> rfl, by (repeat' first | (with_reducible exact Below.refl _ _) | (with_reducible refine Below.setCell ?_ (by first | omega | (simp; done) | (simp; omega)) _) | (with_reducible refine Below.alloc ?_ (by first | omega | (simp; done) | (simp; omega)) _) | refine below_drewN ?_ _ | refine Below.drew ?_ | (refine below_thru (by assumption) ?_ (by first | omega | (simp; done) | (simp; omega))) | exact Below.refl _ _)⟩
            · have hf : Hid ((As.drop (m + 1)).all smallO = R) := Lib.hid (by rw [← hr.out]; rfl)
              clear hr
              go_wp2_with (go_at_call 17; refine ( hsm.out _).mono ?_; rintro e w1 ⟨rfl, hb⟩; obtain ⟨hc, hfz⟩ := bcell hb; have hz := hb.size; (try simp at hz); (try have hz0 : w.heap.size < w1.heap.size := by omega); (try have hz1 : w.heap.size + 1 < w1.heap.size := by omega); (try have hz2 : w.heap.size + 2 < w1.heap.size := by omega); (try have hz3 : w.heap.size + 3 < w1.heap.size := by omega); (try have hcA := fun o => hc w.heap.size o (by first | omega | (simp; omega))); (try have hcB := fun o => hc (w.heap.size + 1) o (by first | omega | (simp; omega))))
              go_roundw
              case rel => exact ⟨m + 1, by omega, by go_num, by (repeat' first | (with_reducible exact Below.refl _ _) | (with_reducible refine Below.setCell ?_ (by first | omega | (simp; done) | (simp; omega)) _) | (with_reducible refine Below.alloc ?_ (by first | omega | (simp; done) | (simp; omega)) _) | refine below_drewN ?_ _ | refine Below.drew ?_ | (refine below_thru (by assumption) ?_ (by first | omega | (simp; done) | (simp; omega))) | exact Below.refl _ _), hf⟩
              case measure => simp [intOf]; omega
          · have hf : Hid (R = true) := Lib.hid (by rw [← hr.out, List.drop_eq_nil_of_le (by omega)]; rfl)
            clear hr
            go_wp2
            go_ret
            exact ⟨by rw [hf.out] <;> rfl, hw1⟩
  · have hf : Hid (R = false) := Lib.hid (by rw [← hR]; simp; intro h h'; omega)
    rcases (show 50 < L.length ∨ 50 < As.length by omega) with h | h
    all_goals
      go_enter Tryd.func16, Tryd.ntmps16
      go_wp2
      all_goals
        go_ret
        exact ⟨by rw [hf.out] <;> rfl, by (repeat' first | (with_reducible exact Below.refl _ _) | (with_reducible refine Below.setCell ?_ (by first | omega | (simp; done) | (simp; omega)) _) | (with_reducible refine Below.alloc ?_ (by first | omega | (simp; done) | (simp; omega)) _) | refine below_drewN ?_ _ | refine Below.drew ?_ | (refine below_thru (by assumption) ?_ (by first | omega | (simp; done) | (simp; omega))) | exact Below.refl _ _)⟩
end Go.Proofs.YtplbkocokknnoaaDoor
