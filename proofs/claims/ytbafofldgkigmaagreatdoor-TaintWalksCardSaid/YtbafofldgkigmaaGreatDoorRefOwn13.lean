/- glacisref13: is a hop own, is one not, is the origin null, may hops be. -/
import Derived.Test.YtbafofldgkigmaaGreatDoorShared13
import Derived.Test.YtbafofldgkigmaaGreatDoorRef4Of
import Derived.Test.YtbafofldgkigmaaGreatDoorFour
import Derived.Test.YtbafofldgkigmaaGreatDoorOne
import Derived.Test.YtbafofldgkigmaaGreatDoorHop
namespace Go.Proofs.YtbafofldgkigmaaGreatDoor
open Go.RowKit
attribute [local irreducible] Calls
set_option maxRecDepth 100000 in
set_option maxHeartbeats 40000000 in
theorem ref13_own (m c cp : Int) (o : Gl.Origin) (u : Gl.URL) (vh : Value) (w : World) (hs : u.rest.length ≤ 4294967280) :
    Calls Tryz.prog 29 #[.agg #[.int .i64 m, .int .i64 c, (Value.bool (o).opaq), (Value.int .i64 (o).id), (Value.string ⟨((o).scheme).toArray⟩), (Value.string ⟨(((o).host).name).toArray⟩), (Value.bool ((o).host).v4), (Value.int .u32 (((o).host).addr : Int)), (Value.int .i64 (o).port), .int .i64 cp], .agg #[(Value.string ⟨((u).scheme).toArray⟩), (Value.string ⟨(((u).host).name).toArray⟩), (Value.bool ((u).host).v4), (Value.int .u32 (((u).host).addr : Int)), (Value.int .i64 (u).port), (Value.string ⟨((u).path).toArray⟩), (Value.bool (u).hasQuery), (Value.string ⟨((u).query).toArray⟩), (Value.string ⟨((u).rest).toArray⟩), vh]] w (Ret w (.bool (Gl.ownH o u))) := by
  have hof := fun W => ref4_of u 0 W hs
  have hso := fun W => ref4_same (Gl.originOf u 0) o W
  obtain ⟨Q, hQ⟩ : ∃ Q, Gl.ownH o u = Q := ⟨_, rfl⟩
  rw [hQ]
  unfold Gl.ownH at hQ
  generalize Gl.originOf u 0 = r at *
  generalize Gl.originSame r o = q at *
  replace hof := Lib.hid hof
  replace hso := Lib.hid hso
  replace hQ := Lib.hid hQ
  go_enter Tryz.func29, Tryz.ntmps29
  go_upto_region 1 with fail
  generalize hW0 : ((w.alloc (Obj.cells #[.int .i64 m, .int .i64 c, (Value.bool (o).opaq), (Value.int .i64 (o).id), (Value.string ⟨((o).scheme).toArray⟩), (Value.string ⟨(((o).host).name).toArray⟩), (Value.bool ((o).host).v4), (Value.int .u32 (((o).host).addr : Int)), (Value.int .i64 (o).port), .int .i64 cp] 54)).alloc (Obj.cells #[(Value.string ⟨((u).scheme).toArray⟩), (Value.string ⟨(((u).host).name).toArray⟩), (Value.bool ((u).host).v4), (Value.int .u32 (((u).host).addr : Int)), (Value.int .i64 (u).port), (Value.string ⟨((u).path).toArray⟩), (Value.bool (u).hasQuery), (Value.string ⟨((u).query).toArray⟩), (Value.string ⟨((u).rest).toArray⟩), vh] 31)) = W0
  have hw0 : Below w.heap.size w W0 := by rw [← hW0]; (exact bw_)
  have hBR : Blk W0 (w.heap.size) 54 #[.int .i64 m, .int .i64 c, (Value.bool (o).opaq), (Value.int .i64 (o).id), (Value.string ⟨((o).scheme).toArray⟩), (Value.string ⟨(((o).host).name).toArray⟩), (Value.bool ((o).host).v4), (Value.int .u32 (((o).host).addr : Int)), (Value.int .i64 (o).port), .int .i64 cp] := by rw [← hW0]; exact (Blk.alloc (Blk.new _ _ _) _)
  have hBH : Blk W0 (w.heap.size + 1) 31 #[(Value.string ⟨((u).scheme).toArray⟩), (Value.string ⟨(((u).host).name).toArray⟩), (Value.bool ((u).host).v4), (Value.int .u32 (((u).host).addr : Int)), (Value.int .i64 (u).port), (Value.string ⟨((u).path).toArray⟩), (Value.bool (u).hasQuery), (Value.string ⟨((u).query).toArray⟩), (Value.string ⟨((u).rest).toArray⟩), vh] := by rw [← hW0]; exact (by have := Blk.new (w.alloc (Obj.cells #[.int .i64 m, .int .i64 c, (Value.bool (o).opaq), (Value.int .i64 (o).id), (Value.string ⟨((o).scheme).toArray⟩), (Value.string ⟨(((o).host).name).toArray⟩), (Value.bool ((o).host).v4), (Value.int .u32 (((o).host).addr : Int)), (Value.int .i64 (o).port), .int .i64 cp] 54)) 31 #[(Value.string ⟨((u).scheme).toArray⟩), (Value.string ⟨(((u).host).name).toArray⟩), (Value.bool ((u).host).v4), (Value.int .u32 (((u).host).addr : Int)), (Value.int .i64 (u).port), (Value.string ⟨((u).path).toArray⟩), (Value.bool (u).hasQuery), (Value.string ⟨((u).query).toArray⟩), (Value.string ⟨((u).rest).toArray⟩), vh]; simpa [World.size_alloc] using this)
  clear hW0
  have hwz := hw0.size
  have hRl := hBR.lt
  have hRc := hBR.cell
  have hRf := hBR.frozen
  have hHl := hBH.lt
  have hHc := hBH.cell
  have hHf := hBH.frozen
  go_upto_region 1 with fail
  go_cut [5] from 6 (fun x5 w' => ∃ gO, x5 = .pointer (some ⟨gO, 0, none⟩) ∧ Below w.heap.size w w' ∧ Blk w' (w.heap.size) 54 #[.int .i64 m, .int .i64 c, (Value.bool (o).opaq), (Value.int .i64 (o).id), (Value.string ⟨((o).scheme).toArray⟩), (Value.string ⟨(((o).host).name).toArray⟩), (Value.bool ((o).host).v4), (Value.int .u32 (((o).host).addr : Int)), (Value.int .i64 (o).port), .int .i64 cp] ∧ Blk w' (w.heap.size + 1) 31 #[(Value.string ⟨((u).scheme).toArray⟩), (Value.string ⟨(((u).host).name).toArray⟩), (Value.bool ((u).host).v4), (Value.int .u32 (((u).host).addr : Int)), (Value.int .i64 (u).port), (Value.string ⟨((u).path).toArray⟩), (Value.bool (u).hasQuery), (Value.string ⟨((u).query).toArray⟩), (Value.string ⟨((u).rest).toArray⟩), vh] ∧ Blk w' (gO) 35 #[(Value.bool (r).opaq), (Value.int .i64 (r).id), (Value.string ⟨((r).scheme).toArray⟩), (Value.string ⟨(((r).host).name).toArray⟩), (Value.bool ((r).host).v4), (Value.int .u32 (((r).host).addr : Int)), (Value.int .i64 (r).port)])
  case first =>
    go_wp2_with (go_at_call 69; refine (hof.out _).mono ?_; rintro e w1 ⟨rfl, hb⟩; obtain ⟨hc, hfz⟩ := bcell hb; have hz := hb.size; (try simp at hz); (try have hz0 := lt_ hb w.heap.size); (try have hz1 := lt_ hb (w.heap.size + 1)); (try have hz2 := lt_ hb (w.heap.size + 2)); (try have hz3 := lt_ hb (w.heap.size + 3)); (try have hcA := fun o => hc w.heap.size o sz_); (try have hcB := fun o => hc (w.heap.size + 1) o sz_))
    go_meet
    case rel =>
      exact ⟨_, rfl, bw_, bk_, bk_, bk_⟩
  case rest =>
  clear hw0 hwz hRl hRc hRf hHl hHc hHf hBR hBH 
  obtain ⟨gO, rfl, hw0, hBR, hBH, hBO⟩ := hcut
  have hwz := hw0.size
  have hRl := hBR.lt
  have hRc := hBR.cell
  have hRf := hBR.frozen
  have hHl := hBH.lt
  have hHc := hBH.cell
  have hHf := hBH.frozen
  have hOl := hBO.lt
  have hOc := hBO.cell
  have hOf := hBO.frozen
  have hQ2 := hQ.out
  obtain ⟨rp, ri, rs, rh, rt⟩ := r
  simp only at hQ2
  cases rp
  · obtain rfl : q = Q := by rw [← hQ2]; cases q <;> rfl
    clear hQ2 hQ
    go_wp2_with (go_at_call 70; refine (hso.out _).mono ?_; rintro e w1 ⟨rfl, hb⟩; obtain ⟨hc, hfz⟩ := bcell hb; have hz := hb.size; (try simp at hz); (try have hz0 := lt_ hb w.heap.size); (try have hz1 := lt_ hb (w.heap.size + 1)); (try have hz2 := lt_ hb (w.heap.size + 2)); (try have hz3 := lt_ hb (w.heap.size + 3)); (try have hcA := fun o => hc w.heap.size o sz_); (try have hcB := fun o => hc (w.heap.size + 1) o sz_))
    go_ret
    exact ⟨rfl, bw_⟩
  · obtain rfl : false = Q := by rw [← hQ2]; rfl
    clear hQ2 hQ
    go_wp2_with fail
    go_ret
    exact ⟨rfl, bw_⟩
set_option maxRecDepth 100000 in
set_option maxHeartbeats 40000000 in
theorem ref13_foreign (m c cp : Int) (o : Gl.Origin) (v : Value) (L : List Gl.Hop) (j : Nat) (w : World) (hv : Hops w v L) (hfit : ∀ h ∈ L, h.url.rest.length ≤ 3000) (hj : j < L.length) (hLl : L.length ≤ 1000000) :
    Calls Tryz.prog 67 #[.agg #[.int .i64 m, .int .i64 c, (Value.bool (o).opaq), (Value.int .i64 (o).id), (Value.string ⟨((o).scheme).toArray⟩), (Value.string ⟨(((o).host).name).toArray⟩), (Value.bool ((o).host).v4), (Value.int .u32 (((o).host).addr : Int)), (Value.int .i64 (o).port), .int .i64 cp], v, .int .i64 (j : Int)] w (Ret w (.bool (Gl.foreignK o L (j + 1)))) := by
  have H := Lib.hid hv
  obtain ⟨A, cc, rfl⟩ := hv.form
  clear hv
  obtain ⟨R, hR⟩ : ∃ R, Gl.foreignK o L (j + 1) = R := ⟨_, rfl⟩
  rw [hR]
  replace hR := Lib.hid hR
  replace hfit := Lib.hid hfit
  go_enter Tryz.func67, Tryz.ntmps67
  go_upto_region 1 with fail
  generalize hW0 : (w.alloc (Obj.cells #[.int .i64 m, .int .i64 c, (Value.bool (o).opaq), (Value.int .i64 (o).id), (Value.string ⟨((o).scheme).toArray⟩), (Value.string ⟨(((o).host).name).toArray⟩), (Value.bool ((o).host).v4), (Value.int .u32 (((o).host).addr : Int)), (Value.int .i64 (o).port), .int .i64 cp] 54)) = W0
  have hw0 : Below w.heap.size w W0 := by rw [← hW0]; (exact bw_)
  have hBR : Blk W0 (w.heap.size) 54 #[.int .i64 m, .int .i64 c, (Value.bool (o).opaq), (Value.int .i64 (o).id), (Value.string ⟨((o).scheme).toArray⟩), (Value.string ⟨(((o).host).name).toArray⟩), (Value.bool ((o).host).v4), (Value.int .u32 (((o).host).addr : Int)), (Value.int .i64 (o).port), .int .i64 cp] := by rw [← hW0]; exact (Blk.new _ _ _)
  clear hW0
  have hwz := hw0.size
  go_wp2_with fail
  go_loopw [7, 8] (fun i _ wr => ∃ k : Nat, k ≤ j + 1 ∧ i = .int .i64 (k : Int) ∧ Gl.foreignK o L k = false ∧ Below w.heap.size w wr ∧ Blk wr w.heap.size 54 #[.int .i64 m, .int .i64 c, (Value.bool (o).opaq), (Value.int .i64 (o).id), (Value.string ⟨((o).scheme).toArray⟩), (Value.string ⟨(((o).host).name).toArray⟩), (Value.bool ((o).host).v4), (Value.int .u32 (((o).host).addr : Int)), (Value.int .i64 (o).port), .int .i64 cp]) (fun i _ _ => j + 1 - (intOf i).toNat)
  case atStart => exact ⟨0, Nat.zero_le _, rfl, rfl, hw0, hBR⟩
  case round =>
    clear hw0 hwz hBR
    obtain ⟨k, hk, rfl, hfk, hw0, hBR⟩ := hrel
    have hwz := hw0.size
    by_cases hlt0 : k < j + 1
    · have hlt : k < L.length := by omega
      obtain ⟨sb, so, sd, he, hsB, hcell⟩ := H.out.cells k hlt
      injection he with he1 he2 he3
      subst he1 he3
      have q0 := fun (W : World) (hW : Below w.heap.size w W) => (hW.cell (p := ⟨sb, so + k * 10 + 0, none⟩) hsB).trans (hcell 0 (by decide))
      have q1 := fun (W : World) (hW : Below w.heap.size w W) => (hW.cell (p := ⟨sb, so + k * 10 + 1, none⟩) hsB).trans (hcell 1 (by decide))
      have q2 := fun (W : World) (hW : Below w.heap.size w W) => (hW.cell (p := ⟨sb, so + k * 10 + 2, none⟩) hsB).trans (hcell 2 (by decide))
      have q3 := fun (W : World) (hW : Below w.heap.size w W) => (hW.cell (p := ⟨sb, so + k * 10 + 3, none⟩) hsB).trans (hcell 3 (by decide))
      have q4 := fun (W : World) (hW : Below w.heap.size w W) => (hW.cell (p := ⟨sb, so + k * 10 + 4, none⟩) hsB).trans (hcell 4 (by decide))
      have q5 := fun (W : World) (hW : Below w.heap.size w W) => (hW.cell (p := ⟨sb, so + k * 10 + 5, none⟩) hsB).trans (hcell 5 (by decide))
      have q6 := fun (W : World) (hW : Below w.heap.size w W) => (hW.cell (p := ⟨sb, so + k * 10 + 6, none⟩) hsB).trans (hcell 6 (by decide))
      have q7 := fun (W : World) (hW : Below w.heap.size w W) => (hW.cell (p := ⟨sb, so + k * 10 + 7, none⟩) hsB).trans (hcell 7 (by decide))
      have q8 := fun (W : World) (hW : Below w.heap.size w W) => (hW.cell (p := ⟨sb, so + k * 10 + 8, none⟩) hsB).trans (hcell 8 (by decide))
      have q9 := fun (W : World) (hW : Below w.heap.size w W) => (hW.cell (p := ⟨sb, so + k * 10 + 9, none⟩) hsB).trans (hcell 9 (by decide))
      rw [← hopAt_lt hlt] at q0 q1 q2 q3 q4 q5 q6 q7 q8 q9
      simp only [hopcells, Nat.add_zero, List.getElem?_toArray, List.getElem?_cons_zero, List.getElem?_cons_succ] at q0 q1 q2 q3 q4 q5 q6 q7 q8 q9
      clear hcell
      have hel : hopAt L k = L[k] := hopAt_lt hlt
      have hown := fun W => ref13_own m c cp o (uAt L k) (hopAt L k).vh W (by have := hfit.out _ (List.getElem_mem hlt); unfold uAt; rw [hel]; omega)
      have hstep : Gl.foreignK o L (k + 1) = !Gl.ownH o (uAt L k) := by rw [Gl.foreignK, hfk]; rfl
      have hu : uAt L k = (hopAt L k).url := rfl
      have hR1 : Gl.foreignK o L (k + 1) = true → R = true := fun h => by rw [← hR.out]; exact foreignK_mono o L (by omega) h
      rw [hu] at hown hstep
      clear hu hel hfk
      replace hR1 := Lib.hid hR1
      generalize hopAt L k = x at *
      generalize Gl.ownH o x.url = q at *
      replace hown := Lib.hid hown
      have hlt1 : (k : Int) ≤ (j : Int) := by omega
      have hsB1 : sb < wr.heap.size := by omega
      have hRc := hBR.cell
      have hRl := hBR.lt
      have hRf := hBR.frozen
      go_upto_region 4 with fail
      go_cut [8] from 9 (fun x8 w' => x8 = .bool q ∧ Below w.heap.size w w' ∧ Blk w' w.heap.size 54 #[.int .i64 m, .int .i64 c, (Value.bool (o).opaq), (Value.int .i64 (o).id), (Value.string ⟨((o).scheme).toArray⟩), (Value.string ⟨(((o).host).name).toArray⟩), (Value.bool ((o).host).v4), (Value.int .u32 (((o).host).addr : Int)), (Value.int .i64 (o).port), .int .i64 cp])
      case first =>
        go_region_held3 (fun W => Below w.heap.size w W ∧ w.heap.size ≤ W.heap.size ∧ w.heap.size < W.heap.size ∧ (∀ n0, W.cell? ⟨w.heap.size, n0, none⟩ = (#[.int .i64 m, .int .i64 c, (Value.bool (o).opaq), (Value.int .i64 (o).id), (Value.string ⟨((o).scheme).toArray⟩), (Value.string ⟨(((o).host).name).toArray⟩), (Value.bool ((o).host).v4), (Value.int .u32 (((o).host).addr : Int)), (Value.int .i64 (o).port), .int .i64 cp] : Array Value)[n0]?) ∧ W.cell? ⟨sb, so + k * 10, none⟩ = some ((Value.string ⟨((x.url).scheme).toArray⟩)) ∧ W.cell? ⟨sb, so + k * 10 + 1, none⟩ = some ((Value.string ⟨((x.url).host.name).toArray⟩)) ∧ W.cell? ⟨sb, so + k * 10 + 2, none⟩ = some (.bool (x.url).host.v4) ∧ W.cell? ⟨sb, so + k * 10 + 3, none⟩ = some (.int .u32 ((x.url).host.addr : Int)) ∧ W.cell? ⟨sb, so + k * 10 + 4, none⟩ = some (.int .i64 (x.url).port) ∧ W.cell? ⟨sb, so + k * 10 + 5, none⟩ = some ((Value.string ⟨((x.url).path).toArray⟩)) ∧ W.cell? ⟨sb, so + k * 10 + 6, none⟩ = some (.bool (x.url).hasQuery) ∧ W.cell? ⟨sb, so + k * 10 + 7, none⟩ = some ((Value.string ⟨((x.url).query).toArray⟩)) ∧ W.cell? ⟨sb, so + k * 10 + 8, none⟩ = some ((Value.string ⟨((x.url).rest).toArray⟩)) ∧ W.cell? ⟨sb, so + k * 10 + 9, none⟩ = some (x.vh)) ((refine ⟨bw_, by first | omega | (simp; omega), by first | omega | (simp; omega), by exact Blk.cell (t := 54) (bk_), q0 _ (bw_), q1 _ (bw_), q2 _ (bw_), q3 _ (bw_), q4 _ (bw_), q5 _ (bw_), q6 _ (bw_), q7 _ (bw_), q8 _ (bw_), q9 _ (bw_)⟩)) (first | (go_at_call 29; refine (hown.out _).mono ?_; rintro e w1 ⟨rfl, hb⟩; obtain ⟨hc, hfz⟩ := bcell hb; have hz := hb.size; (try simp at hz); (try have hz0 := lt_ hb w.heap.size); (try have hz1 := lt_ hb (w.heap.size + 1)); (try have hz2 := lt_ hb (w.heap.size + 2)); (try have hz3 := lt_ hb (w.heap.size + 3)); (try have hcA := fun o => hc w.heap.size o sz_); (try have hcB := fun o => hc (w.heap.size + 1) o sz_)))
        all_goals go_wp2_with fail
        all_goals go_meet
        all_goals exact ⟨rfl, bw_, bk_⟩
      case rest =>
      clear hw0 hwz hBR hRc hRl hRf q0 q1 q2 q3 q4 q5 q6 q7 q8 q9
      obtain ⟨rfl, hw0, hBR⟩ := hcut
      cases q
      · have hf := Lib.hid (hR1.out hstep)
        clear hR1 hstep
        go_wp2_with fail
        go_ret
        exact ⟨by rw [hf.out] <;> rfl, bw_⟩
      · clear hR1
        replace hstep := Lib.hid hstep
        go_wp2_with fail
        go_roundw
        case rel => exact ⟨k + 1, by omega, by go_num, hstep.out, hw0, hBR⟩
        case measure => simp [intOf]; omega
    · obtain rfl : k = j + 1 := by omega
      have hf : R = false := by rw [← hR.out]; exact hfk
      replace hf := Lib.hid hf
      clear hR hfk
      go_wp2_with fail
      go_ret
      exact ⟨by rw [hf.out] <;> rfl, bw_⟩
end Go.Proofs.YtbafofldgkigmaaGreatDoor
