/- glacislaw18.EmbedChain. -/
import Derived.Test.YtkfoogmncokjnaaDoorAwake18
import Derived.Test.YtkfoogmncokjnaaDoorPols
import Derived.IntWalk
namespace Go.Proofs.YtkfoogmncokjnaaDoor
open Go.RowKit
attribute [local irreducible] Calls
theorem coep_chain (a b : Int) (w : World) : Calls Tryd.prog 7 #[.agg #[.int .i64 a, .string ⟨#[]⟩, .int .i64 0, .string ⟨#[]⟩], .agg #[.int .i64 b, .string ⟨#[]⟩, .int .i64 0, .string ⟨#[]⟩]] w (Ret w (.agg #[.bool (Gl.coepOk a b), .bool (!Gl.coepOk a b), .bool false])) := by
  have h := embed_coep a 0 b 0 [] [] [] [] w
  rw [show Gl.coepOnly 0 b = false by unfold Gl.coepOnly; simp [Gl.isolates]] at h
  exact h
set_option maxRecDepth 100000 in
set_option maxHeartbeats 4000000 in
theorem law18_chain (v : Value) (V : List Int) (w : World) (hE : Env w) (hV : Ints w v V) : Calls Tryd.prog 4 #[v] w (Ret w (.bool true)) := by
  have hup := fun W (hW : Below w.heap.size w W) => awake18 W (hE.below hW)
  replace hup := Lib.hid hup
  have H := Lib.hid hV
  obtain ⟨A, c, rfl⟩ := hV.form
  clear hV
  by_cases hl : 100 < V.length
  · go_enter Tryd.func4, Tryd.ntmps4
    go_wp2_with (go_at_call 6; refine ( hup.out _ (by (repeat' first | (with_reducible exact Below.refl _ _) | (with_reducible refine Below.setCell ?_ (by first | omega | (simp; done) | (simp; omega)) _) | (with_reducible refine Below.alloc ?_ (by first | omega | (simp; done) | (simp; omega)) _) | refine below_drewN ?_ _ | refine Below.drew ?_ | (refine below_thru (by assumption) ?_ (by first | omega | (simp; done) | (simp; omega))) | exact Below.refl _ _))).mono ?_; rintro e w1 ⟨rfl, hb⟩; obtain ⟨hc, hfz⟩ := bcell hb; have hz := hb.size; (try simp at hz); (try have hz0 : w.heap.size < w1.heap.size := by omega); (try have hz1 : w.heap.size + 1 < w1.heap.size := by omega); (try have hz2 : w.heap.size + 2 < w1.heap.size := by omega); (try have hz3 : w.heap.size + 3 < w1.heap.size := by omega); (try have hcA := fun o => hc w.heap.size o (by first | omega | (simp; omega))); (try have hcB := fun o => hc (w.heap.size + 1) o (by first | omega | (simp; omega))); (try have hcGg := fun o => hc g o (by first | omega | (simp; omega))); (try have hfGg := fun o => hfz g o (by first | omega | (simp; omega))); (try have hzGg : g < w1.heap.size := by omega))
    go_ret
    exact ⟨rfl, by (repeat' first | (with_reducible exact Below.refl _ _) | (with_reducible refine Below.setCell ?_ (by first | omega | (simp; done) | (simp; omega)) _) | (with_reducible refine Below.alloc ?_ (by first | omega | (simp; done) | (simp; omega)) _) | refine below_drewN ?_ _ | refine Below.drew ?_ | (refine below_thru (by assumption) ?_ (by first | omega | (simp; done) | (simp; omega))) | exact Below.refl _ _)⟩
  · go_enter Tryd.func4, Tryd.ntmps4
    go_wp2_with (go_at_call 6; refine ( hup.out _ (by (repeat' first | (with_reducible exact Below.refl _ _) | (with_reducible refine Below.setCell ?_ (by first | omega | (simp; done) | (simp; omega)) _) | (with_reducible refine Below.alloc ?_ (by first | omega | (simp; done) | (simp; omega)) _) | refine below_drewN ?_ _ | refine Below.drew ?_ | (refine below_thru (by assumption) ?_ (by first | omega | (simp; done) | (simp; omega))) | exact Below.refl _ _))).mono ?_; rintro e w1 ⟨rfl, hb⟩; obtain ⟨hc, hfz⟩ := bcell hb; have hz := hb.size; (try simp at hz); (try have hz0 : w.heap.size < w1.heap.size := by omega); (try have hz1 : w.heap.size + 1 < w1.heap.size := by omega); (try have hz2 : w.heap.size + 2 < w1.heap.size := by omega); (try have hz3 : w.heap.size + 3 < w1.heap.size := by omega); (try have hcA := fun o => hc w.heap.size o (by first | omega | (simp; omega))); (try have hcB := fun o => hc (w.heap.size + 1) o (by first | omega | (simp; omega))); (try have hcGg := fun o => hc g o (by first | omega | (simp; omega))); (try have hfGg := fun o => hfz g o (by first | omega | (simp; omega))); (try have hzGg : g < w1.heap.size := by omega))
    go_loopw [4, 5, 6, 7] (fun i _ _ _ wr => ∃ k : Nat, 1 ≤ k ∧ (k ≤ V.length ∨ k = 1) ∧ i = .int .i64 k ∧ Below w.heap.size w wr) (fun i _ _ _ _ => V.length - (intOf i).toNat)
    case atStart => exact ⟨1, Nat.le_refl _, Or.inr rfl, rfl, by (repeat' first | (with_reducible exact Below.refl _ _) | (with_reducible refine Below.setCell ?_ (by first | omega | (simp; done) | (simp; omega)) _) | (with_reducible refine Below.alloc ?_ (by first | omega | (simp; done) | (simp; omega)) _) | refine below_drewN ?_ _ | refine Below.drew ?_ | (refine below_thru (by assumption) ?_ (by first | omega | (simp; done) | (simp; omega))) | exact Below.refl _ _)⟩
    case round =>
      obtain ⟨k, hk1, hk, rfl, hwr⟩ := hrel
      have hwz := hwr.size
      by_cases hlt : k < V.length
      · obtain ⟨sb, so, sd, he, hsB, hcell⟩ := H.out.cells k hlt
        injection he with he1 he2 he3
        subst he1 he3
        obtain ⟨j, hj⟩ : ∃ j, k = j + 1 := ⟨k - 1, by omega⟩
        have q0 := fun (W : World) (hW : Below w.heap.size w W) => (hW.cell (p := ⟨sb, so + j, none⟩) hsB).trans (hcell j (by omega))
        have q1 := fun (W : World) (hW : Below w.heap.size w W) => (hW.cell (p := ⟨sb, so + k, none⟩) hsB).trans (hcell k hlt)
        clear hcell
        generalize V[j] = a at *
        generalize V[k] = b at *
        have hco := fun W => coep_chain a b W
        have hsame : ∀ z : Int, Gl.isolates z = (z == 1 || z == 2) := fun z => rfl
        have hr0 : Gl.coepOk a b = (Gl.isolates b || !Gl.isolates a) := rfl
        rw [hsame, hsame] at hr0
        generalize Gl.coepOk a b = r at *
        clear hsame
        replace hr0 := Lib.hid hr0
        replace hco := Lib.hid hco
        have c0 := q0 _ hwr
        have c1 := q1 _ hwr
        have hs : IntKind.i64.wrap ((k : Int) - 1) = (j : Int) := by rw [IntWalk.i64_in _ (by omega)]; omega
        have hj0 : 0 ≤ (j : Int) := by omega
        have hjl : (j : Int) < (V.length : Int) := by omega
        have hk0 : 0 ≤ (k : Int) := by omega
        have hkl : (k : Int) < (V.length : Int) := by omega
        have hjl2 : j < V.length := by omega
        clear hj hk
        go_upto_region 7 with fail
        go_cut [5, 76] from 19 (fun x5 x76 w' => x76 = undef ∧ ∃ g, x5 = .pointer (some ⟨g, 0, none⟩) ∧ Below w.heap.size w w' ∧ w'.cell? ⟨g, 0, none⟩ = some (.bool r) ∧ w'.cell? ⟨g, 1, none⟩ = some (.bool !r) ∧ w'.cell? ⟨g, 2, none⟩ = some (.bool false))
        case first =>
          go_region_held3 (fun W => Below w.heap.size w W ∧ wr.heap.size ≤ W.heap.size ∧ W.cell? ⟨sb, so + j, none⟩ = some (.int .i64 a) ∧ W.cell? ⟨sb, so + k, none⟩ = some (.int .i64 b)) ((refine ⟨by (repeat' first | (with_reducible exact Below.refl _ _) | (with_reducible refine Below.setCell ?_ (by first | omega | (simp; done) | (simp; omega)) _) | (with_reducible refine Below.alloc ?_ (by first | omega | (simp; done) | (simp; omega)) _) | refine below_drewN ?_ _ | refine Below.drew ?_ | (refine below_thru (by assumption) ?_ (by first | omega | (simp; done) | (simp; omega))) | exact Below.refl _ _), by first | omega | (simp; done) | (simp; omega), q0 _ (by (repeat' first | (with_reducible exact Below.refl _ _) | (with_reducible refine Below.setCell ?_ (by first | omega | (simp; done) | (simp; omega)) _) | (with_reducible refine Below.alloc ?_ (by first | omega | (simp; done) | (simp; omega)) _) | refine below_drewN ?_ _ | refine Below.drew ?_ | (refine below_thru (by assumption) ?_ (by first | omega | (simp; done) | (simp; omega))) | exact Below.refl _ _)), q1 _ (by (repeat' first | (with_reducible exact Below.refl _ _) | (with_reducible refine Below.setCell ?_ (by first | omega | (simp; done) | (simp; omega)) _) | (with_reducible refine Below.alloc ?_ (by first | omega | (simp; done) | (simp; omega)) _) | refine below_drewN ?_ _ | refine Below.drew ?_ | (refine below_thru (by assumption) ?_ (by first | omega | (simp; done) | (simp; omega))) | exact Below.refl _ _))⟩)) (first | (go_at_call 7; refine ( hco.out _).mono ?_; rintro e w1 ⟨rfl, hb⟩; obtain ⟨hc, hfz⟩ := bcell hb; have hz := hb.size; (try simp at hz); (try have hz0 : w.heap.size < w1.heap.size := by omega); (try have hz1 : w.heap.size + 1 < w1.heap.size := by omega); (try have hz2 : w.heap.size + 2 < w1.heap.size := by omega); (try have hz3 : w.heap.size + 3 < w1.heap.size := by omega); (try have hcA := fun o => hc w.heap.size o (by first | omega | (simp; omega))); (try have hcB := fun o => hc (w.heap.size + 1) o (by first | omega | (simp; omega))); (try have hcGg := fun o => hc g o (by first | omega | (simp; omega))); (try have hfGg := fun o => hfz g o (by first | omega | (simp; omega))); (try have hzGg : g < w1.heap.size := by omega)))
          · go_wp2_with fail
            go_meet
            case rel =>
              have hB : Blk (w1.alloc (Obj.cells #[.bool r, .bool !r, .bool false] 25)) w1.heap.size 25 #[.bool r, .bool !r, .bool false] := Blk.new _ _ _
              exact ⟨rfl, _, rfl, by (repeat' first | (with_reducible exact Below.refl _ _) | (with_reducible refine Below.setCell ?_ (by first | omega | (simp; done) | (simp; omega)) _) | (with_reducible refine Below.alloc ?_ (by first | omega | (simp; done) | (simp; omega)) _) | refine below_drewN ?_ _ | refine Below.drew ?_ | (refine below_thru (by assumption) ?_ (by first | omega | (simp; done) | (simp; omega))) | exact Below.refl _ _), hB.cell 0, hB.cell 1, hB.cell 2⟩
          · go_wp2_with fail
            go_meet
            case rel =>
              have hB0 : Blk w1 wr.heap.size 25 #[.bool false, .bool false, .bool false] := by (repeat' first | (with_reducible assumption) | (with_reducible exact Blk.new _ _ _) | (with_reducible refine Blk.drew_ ?_) | (with_reducible refine Blk.alloc ?_ _) | (refine Blk.below ?_ (by assumption) (by first | omega | (simp; done) | (simp; omega))))
              have hB := ((hB0.set_ 0 (.bool r)).set_ 1 (.bool !r)).set_ 2 (.bool false)
              exact ⟨rfl, _, rfl, by (repeat' first | (with_reducible exact Below.refl _ _) | (with_reducible refine Below.setCell ?_ (by first | omega | (simp; done) | (simp; omega)) _) | (with_reducible refine Below.alloc ?_ (by first | omega | (simp; done) | (simp; omega)) _) | refine below_drewN ?_ _ | refine Below.drew ?_ | (refine below_thru (by assumption) ?_ (by first | omega | (simp; done) | (simp; omega))) | exact Below.refl _ _), hB.cell 0, hB.cell 1, hB.cell 2⟩
        case rest =>
        clear hwr hwz c0 c1 hco
        obtain ⟨rfl, g, rfl, hwr, g0, g1, g2⟩ := hcut
        have hwz := hwr.size
        have c0 := q0 _ hwr
        have c1 := q1 _ hwr
        have ha : a = 1 ∨ a = 2 ∨ ((a == 1) = false ∧ (a == 2) = false) := by
          by_cases h1 : a = 1
          · exact Or.inl h1
          · by_cases h2 : a = 2
            · exact Or.inr (Or.inl h2)
            · exact Or.inr (Or.inr ⟨by simpa using h1, by simpa using h2⟩)
        have hb : b = 1 ∨ b = 2 ∨ ((b == 1) = false ∧ (b == 2) = false) := by
          by_cases h1 : b = 1
          · exact Or.inl h1
          · by_cases h2 : b = 2
            · exact Or.inr (Or.inl h2)
            · exact Or.inr (Or.inr ⟨by simpa using h1, by simpa using h2⟩)
        rcases ha with rfl | rfl | ⟨ha1, ha2⟩
        · rcases hb with rfl | rfl | ⟨hb1, hb2⟩
          · obtain rfl : r = true := by rw [hr0.out]; simp
            go_wp2_with fail
            go_roundw
            case rel => exact ⟨k + 1, by omega, Or.inl (by omega), by go_num, by (repeat' first | (with_reducible exact Below.refl _ _) | (with_reducible refine Below.setCell ?_ (by first | omega | (simp; done) | (simp; omega)) _) | (with_reducible refine Below.alloc ?_ (by first | omega | (simp; done) | (simp; omega)) _) | refine below_drewN ?_ _ | refine Below.drew ?_ | (refine below_thru (by assumption) ?_ (by first | omega | (simp; done) | (simp; omega))) | exact Below.refl _ _)⟩
            case measure => simp [intOf]; omega
          · obtain rfl : r = true := by rw [hr0.out]; simp
            go_wp2_with fail
            go_roundw
            case rel => exact ⟨k + 1, by omega, Or.inl (by omega), by go_num, by (repeat' first | (with_reducible exact Below.refl _ _) | (with_reducible refine Below.setCell ?_ (by first | omega | (simp; done) | (simp; omega)) _) | (with_reducible refine Below.alloc ?_ (by first | omega | (simp; done) | (simp; omega)) _) | refine below_drewN ?_ _ | refine Below.drew ?_ | (refine below_thru (by assumption) ?_ (by first | omega | (simp; done) | (simp; omega))) | exact Below.refl _ _)⟩
            case measure => simp [intOf]; omega
          · obtain rfl : r = false := by rw [hr0.out]; simp [hb1, hb2]
            go_wp2_with fail
            go_roundw
            case rel => exact ⟨k + 1, by omega, Or.inl (by omega), by go_num, by (repeat' first | (with_reducible exact Below.refl _ _) | (with_reducible refine Below.setCell ?_ (by first | omega | (simp; done) | (simp; omega)) _) | (with_reducible refine Below.alloc ?_ (by first | omega | (simp; done) | (simp; omega)) _) | refine below_drewN ?_ _ | refine Below.drew ?_ | (refine below_thru (by assumption) ?_ (by first | omega | (simp; done) | (simp; omega))) | exact Below.refl _ _)⟩
            case measure => simp [intOf]; omega
        · rcases hb with rfl | rfl | ⟨hb1, hb2⟩
          · obtain rfl : r = true := by rw [hr0.out]; simp
            go_wp2_with fail
            go_roundw
            case rel => exact ⟨k + 1, by omega, Or.inl (by omega), by go_num, by (repeat' first | (with_reducible exact Below.refl _ _) | (with_reducible refine Below.setCell ?_ (by first | omega | (simp; done) | (simp; omega)) _) | (with_reducible refine Below.alloc ?_ (by first | omega | (simp; done) | (simp; omega)) _) | refine below_drewN ?_ _ | refine Below.drew ?_ | (refine below_thru (by assumption) ?_ (by first | omega | (simp; done) | (simp; omega))) | exact Below.refl _ _)⟩
            case measure => simp [intOf]; omega
          · obtain rfl : r = true := by rw [hr0.out]; simp
            go_wp2_with fail
            go_roundw
            case rel => exact ⟨k + 1, by omega, Or.inl (by omega), by go_num, by (repeat' first | (with_reducible exact Below.refl _ _) | (with_reducible refine Below.setCell ?_ (by first | omega | (simp; done) | (simp; omega)) _) | (with_reducible refine Below.alloc ?_ (by first | omega | (simp; done) | (simp; omega)) _) | refine below_drewN ?_ _ | refine Below.drew ?_ | (refine below_thru (by assumption) ?_ (by first | omega | (simp; done) | (simp; omega))) | exact Below.refl _ _)⟩
            case measure => simp [intOf]; omega
          · obtain rfl : r = false := by rw [hr0.out]; simp [hb1, hb2]
            go_wp2_with fail
            go_roundw
            case rel => exact ⟨k + 1, by omega, Or.inl (by omega), by go_num, by (repeat' first | (with_reducible exact Below.refl _ _) | (with_reducible refine Below.setCell ?_ (by first | omega | (simp; done) | (simp; omega)) _) | (with_reducible refine Below.alloc ?_ (by first | omega | (simp; done) | (simp; omega)) _) | refine below_drewN ?_ _ | refine Below.drew ?_ | (refine below_thru (by assumption) ?_ (by first | omega | (simp; done) | (simp; omega))) | exact Below.refl _ _)⟩
            case measure => simp [intOf]; omega
        · rcases hb with rfl | rfl | ⟨hb1, hb2⟩
          · obtain rfl : r = true := by rw [hr0.out]; simp [ha1, ha2]
            go_wp2_with fail
            go_roundw
            case rel => exact ⟨k + 1, by omega, Or.inl (by omega), by go_num, by (repeat' first | (with_reducible exact Below.refl _ _) | (with_reducible refine Below.setCell ?_ (by first | omega | (simp; done) | (simp; omega)) _) | (with_reducible refine Below.alloc ?_ (by first | omega | (simp; done) | (simp; omega)) _) | refine below_drewN ?_ _ | refine Below.drew ?_ | (refine below_thru (by assumption) ?_ (by first | omega | (simp; done) | (simp; omega))) | exact Below.refl _ _)⟩
            case measure => simp [intOf]; omega
          · obtain rfl : r = true := by rw [hr0.out]; simp [ha1, ha2]
            go_wp2_with fail
            go_roundw
            case rel => exact ⟨k + 1, by omega, Or.inl (by omega), by go_num, by (repeat' first | (with_reducible exact Below.refl _ _) | (with_reducible refine Below.setCell ?_ (by first | omega | (simp; done) | (simp; omega)) _) | (with_reducible refine Below.alloc ?_ (by first | omega | (simp; done) | (simp; omega)) _) | refine below_drewN ?_ _ | refine Below.drew ?_ | (refine below_thru (by assumption) ?_ (by first | omega | (simp; done) | (simp; omega))) | exact Below.refl _ _)⟩
            case measure => simp [intOf]; omega
          · obtain rfl : r = true := by rw [hr0.out]; simp [ha1, ha2, hb1, hb2]
            go_wp2_with fail
            go_roundw
            case rel => exact ⟨k + 1, by omega, Or.inl (by omega), by go_num, by (repeat' first | (with_reducible exact Below.refl _ _) | (with_reducible refine Below.setCell ?_ (by first | omega | (simp; done) | (simp; omega)) _) | (with_reducible refine Below.alloc ?_ (by first | omega | (simp; done) | (simp; omega)) _) | refine below_drewN ?_ _ | refine Below.drew ?_ | (refine below_thru (by assumption) ?_ (by first | omega | (simp; done) | (simp; omega))) | exact Below.refl _ _)⟩
            case measure => simp [intOf]; omega
      · go_wp2
        go_ret
        exact ⟨rfl, by (repeat' first | (with_reducible exact Below.refl _ _) | (with_reducible refine Below.setCell ?_ (by first | omega | (simp; done) | (simp; omega)) _) | (with_reducible refine Below.alloc ?_ (by first | omega | (simp; done) | (simp; omega)) _) | refine below_drewN ?_ _ | refine Below.drew ?_ | (refine below_thru (by assumption) ?_ (by first | omega | (simp; done) | (simp; omega))) | exact Below.refl _ _)⟩
end Go.Proofs.YtkfoogmncokjnaaDoor
