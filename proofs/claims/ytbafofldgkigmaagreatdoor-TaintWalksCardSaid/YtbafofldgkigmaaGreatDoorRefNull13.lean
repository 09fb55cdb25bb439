/- glacisref13: is the origin null, may hops be. -/
import Derived.Test.YtbafofldgkigmaaGreatDoorRefOwn13
namespace Go.Proofs.YtbafofldgkigmaaGreatDoor
open Go.RowKit
attribute [local irreducible] Calls
theorem nullK_mono (o : Gl.Origin) (L : List Gl.Hop) {a b : Nat} (h : a ≤ b) (ha : Gl.nullK o L a = true) : Gl.nullK o L b = true := by
  induction b with
  | zero =>
    obtain rfl : a = 0 := by omega
    exact ha
  | succ b ih =>
    by_cases e : a = b + 1
    · subst e; exact ha
    · rw [Gl.nullK, ih (by omega)]; rfl
set_option maxRecDepth 100000 in
set_option maxHeartbeats 40000000 in
theorem ref13_null (m c cp : Int) (o : Gl.Origin) (v : Value) (L : List Gl.Hop) (j : Nat) (w : World) (hv : Hops w v L) (hfit : ∀ h ∈ L, h.url.rest.length ≤ 3000) (hj : j < L.length) (hLl : L.length ≤ 1000000) :
    Calls Tryz.prog 66 #[.agg #[.int .i64 m, .int .i64 c, (Value.bool (o).opaq), (Value.int .i64 (o).id), (Value.string ⟨((o).scheme).toArray⟩), (Value.string ⟨(((o).host).name).toArray⟩), (Value.bool ((o).host).v4), (Value.int .u32 (((o).host).addr : Int)), (Value.int .i64 (o).port), .int .i64 cp], v, .int .i64 (j : Int)] w (Ret w (.bool (Gl.nullK o L (j + 1)))) := by
  have H := Lib.hid hv
  obtain ⟨A, cc, rfl⟩ := hv.form
  clear hv
  obtain ⟨R, hR⟩ : ∃ R, Gl.nullK o L (j + 1) = R := ⟨_, rfl⟩
  rw [hR]
  have hmono : Hid (∀ k, k ≤ j → Gl.nullK o L (k + 1) = true → R = true) := Lib.hid (fun k hk h => by rw [← hR]; exact nullK_mono o L (by omega) h)
  replace hR := Lib.hid hR
  replace hfit := Lib.hid hfit
  go_enter Tryz.func66, Tryz.ntmps66
  go_upto_region 1 with fail
  generalize hW0 : (w.alloc (Obj.cells #[.int .i64 m, .int .i64 c, (Value.bool (o).opaq), (Value.int .i64 (o).id), (Value.string ⟨((o).scheme).toArray⟩), (Value.string ⟨(((o).host).name).toArray⟩), (Value.bool ((o).host).v4), (Value.int .u32 (((o).host).addr : Int)), (Value.int .i64 (o).port), .int .i64 cp] 54)) = W0
  have hw0 : Below w.heap.size w W0 := by rw [← hW0]; (exact bw_)
  have hBR : Blk W0 (w.heap.size) 54 #[.int .i64 m, .int .i64 c, (Value.bool (o).opaq), (Value.int .i64 (o).id), (Value.string ⟨((o).scheme).toArray⟩), (Value.string ⟨(((o).host).name).toArray⟩), (Value.bool ((o).host).v4), (Value.int .u32 (((o).host).addr : Int)), (Value.int .i64 (o).port), .int .i64 cp] := by rw [← hW0]; exact (Blk.new _ _ _)
  clear hW0
  have hwz := hw0.size
  go_wp2_with fail
  go_loopw [7, 8, 9] (fun i _ _ wr => ∃ k : Nat, k ≤ j ∧ i = .int .i64 ((k : Int) + 1) ∧ Gl.nullK o L (k + 1) = false ∧ Below w.heap.size w wr ∧ Blk wr w.heap.size 54 #[.int .i64 m, .int .i64 c, (Value.bool (o).opaq), (Value.int .i64 (o).id), (Value.string ⟨((o).scheme).toArray⟩), (Value.string ⟨(((o).host).name).toArray⟩), (Value.bool ((o).host).v4), (Value.int .u32 (((o).host).addr : Int)), (Value.int .i64 (o).port), .int .i64 cp]) (fun i _ _ _ => j + 1 - (intOf i).toNat)
  case atStart => exact ⟨0, Nat.zero_le _, rfl, rfl, hw0, hBR⟩
  case round =>
    clear hw0 hwz hBR
    obtain ⟨k, hk, rfl, hfk, hw0, hBR⟩ := hrel
    have hwz := hw0.size
    by_cases hlt0 : k < j
    · have hlt : k < L.length := by omega
      have hlt2 : k + 1 < L.length := by omega
      obtain ⟨sb, so, sd, he, hsB, hcell⟩ := H.out.cells k hlt
      injection he with he1 he2 he3
      subst he1 he3
      have q0 := fun (W : World) (hW : Below w.heap.size w W) => (hW.cell (p := ⟨sb, so + k * 10 + 0, none⟩) hsB).trans (hcell 0 (by decide))
      have q1 := fun (W : World) (hW : Below w.heap.size w W) => (hW.cell (p := ⟨sb, so + k * 10 + 1, none⟩) hsB).trans (hcell 1 (by decide))
      have q2 := fun (W : World) (hW : Below w.heap.size w W) => (hW.cell (p := ⟨sb, so + k * 10 + 2, none⟩) hsB).trans (hcell 2 (by decide))
      have q3 := fun (W : World) (hW : Below w.heap.size w W) => (hW.cell (p := ⟨sb, so + k * 10 + 3, none⟩) hsB).trans (hcell 3 (by decide))
      have q4 := fun (W : World) (hW : Below w.heap.size w W) => (hW.cell (p := ⟨sb, so + k * 10 + 4, none⟩) hsB).trans (hcell 4 (by decide))
      have q5 := fun (W : World) (hW : Below w.heap.size w W) => (hW.cell (p := ⟨sb, so + k * 10 + 5, none⟩) hsB).trans (hcell 5 (by decide))
      have q6 := fun (W : World) (hW : Below w.heap.size w W) => (hW.cell (p := ⟨sb, so + k * 10 + 6, none⟩) hsB).trans (hcell 6 (by decide))
      have q7 := fun (W : World) (hW : Below w.heap.size w W) => (hW.cell (p := ⟨sb, so + k * 10 + 7, none⟩) hsB).trans (hcell 7 (by decide))
      have q8 := fun (W : World) (hW : Below w.heap.size w W) => (hW.cell (p := ⟨sb, so + k * 10 + 8, none⟩) hsB).trans (hcell 8 (by decide))
      have q9 := fun (W : World) (hW : Below w.heap.size w W) => (hW.cell (p := ⟨sb, so + k * 10 + 9, none⟩) hsB).trans (hcell 9 (by decide))
      rw [← hopAt_lt hlt] at q0 q1 q2 q3 q4 q5 q6 q7 q8 q9
      simp only [hopcells, Nat.add_zero, List.getElem?_toArray, List.getElem?_cons_zero, List.getElem?_cons_succ] at q0 q1 q2 q3 q4 q5 q6 q7 q8 q9
      clear hcell
      obtain ⟨sb2, so2, sd2, he, hsB2, hcell⟩ := H.out.cells (k + 1) hlt2
      injection he with he1 he2 he3
      injection he1 with he4
      injection he4 with he5 he6
      subst he5 he6
      clear he2 he3 hsB2
      have p0 := fun (W : World) (hW : Below w.heap.size w W) => (hW.cell (p := ⟨sb, so + (k + 1) * 10 + 0, none⟩) hsB).trans (hcell 0 (by decide))
      have p1 := fun (W : World) (hW : Below w.heap.size w W) => (hW.cell (p := ⟨sb, so + (k + 1) * 10 + 1, none⟩) hsB).trans (hcell 1 (by decide))
      have p2 := fun (W : World) (hW : Below w.heap.size w W) => (hW.cell (p := ⟨sb, so + (k + 1) * 10 + 2, none⟩) hsB).trans (hcell 2 (by decide))
      have p3 := fun (W : World) (hW : Below w.heap.size w W) => (hW.cell (p := ⟨sb, so + (k + 1) * 10 + 3, none⟩) hsB).trans (hcell 3 (by decide))
      have p4 := fun (W : World) (hW : Below w.heap.size w W) => (hW.cell (p := ⟨sb, so + (k + 1) * 10 + 4, none⟩) hsB).trans (hcell 4 (by decide))
      have p5 := fun (W : World) (hW : Below w.heap.size w W) => (hW.cell (p := ⟨sb, so + (k + 1) * 10 + 5, none⟩) hsB).trans (hcell 5 (by decide))
      have p6 := fun (W : World) (hW : Below w.heap.size w W) => (hW.cell (p := ⟨sb, so + (k + 1) * 10 + 6, none⟩) hsB).trans (hcell 6 (by decide))
      have p7 := fun (W : World) (hW : Below w.heap.size w W) => (hW.cell (p := ⟨sb, so + (k + 1) * 10 + 7, none⟩) hsB).trans (hcell 7 (by decide))
      have p8 := fun (W : World) (hW : Below w.heap.size w W) => (hW.cell (p := ⟨sb, so + (k + 1) * 10 + 8, none⟩) hsB).trans (hcell 8 (by decide))
      have p9 := fun (W : World) (hW : Below w.heap.size w W) => (hW.cell (p := ⟨sb, so + (k + 1) * 10 + 9, none⟩) hsB).trans (hcell 9 (by decide))
      rw [← hopAt_lt hlt2] at p0 p1 p2 p3 p4 p5 p6 p7 p8 p9
      simp only [hopcells, Nat.add_zero, List.getElem?_toArray, List.getElem?_cons_zero, List.getElem?_cons_succ] at p0 p1 p2 p3 p4 p5 p6 p7 p8 p9
      clear hcell
      have hown := fun W => ref13_own m c cp o (uAt L k) (hopAt L k).vh W (by have := hfit.out _ (List.getElem_mem hlt); unfold uAt; rw [hopAt_lt hlt]; omega)
      have hof1 := fun W => ref4_of (uAt L k) 0 W (by have := hfit.out _ (List.getElem_mem hlt); unfold uAt; rw [hopAt_lt hlt]; omega)
      have hof2 := fun W => ref4_of (uAt L (k + 1)) 0 W (by have := hfit.out _ (List.getElem_mem hlt2); unfold uAt; rw [hopAt_lt hlt2]; omega)
      have hsm := fun W => ref4_same (Gl.originOf (uAt L k) 0) (Gl.originOf (uAt L (k + 1)) 0) W
      have hstep : Gl.nullK o L (k + 1 + 1) = (!Gl.ownH o (uAt L k) && !Gl.originSame (Gl.originOf (uAt L k) 0) (Gl.originOf (uAt L (k + 1)) 0)) := by rw [Gl.nullK, hfk, decide_eq_true (by omega : 0 < k + 1), Nat.add_sub_cancel]; rfl
      have hR1 := fun h => hmono.out (k + 1) (by omega) h
      have hu : uAt L k = (hopAt L k).url := rfl
      have hu2 : uAt L (k + 1) = (hopAt L (k + 1)).url := rfl
      rw [hu] at hown hof1 hsm hstep
      rw [hu2] at hof2 hsm hstep
      clear hu hu2 hfk
      replace hR1 := Lib.hid hR1
      generalize hopAt L k = x at *
      generalize hopAt L (k + 1) = y at *
      generalize Gl.ownH o x.url = q at *
      generalize Gl.originOf x.url 0 = r1 at *
      generalize Gl.originOf y.url 0 = r2 at *
      generalize Gl.originSame r1 r2 = z2 at *
      replace hown := Lib.hid hown
      replace hof1 := Lib.hid hof1
      replace hof2 := Lib.hid hof2
      replace hsm := Lib.hid hsm
      replace hstep := Lib.hid hstep
      have hlt1 : (k : Int) + 1 ≤ (j : Int) := by omega
      have hk0 : (0 : Int) ≤ (k : Int) := by omega
      have hkL : (k : Int) < (L.length : Int) := by omega
      have hkL2 : (k : Int) + 1 < (L.length : Int) := by omega
      have hwk : IntKind.i64.wrap ((k : Int) + 1 - 1) = (k : Int) := by rw [IntWalk.i64_in _ (by omega)]; omega
      have hwk2 : IntKind.i64.wrap (k : Int) = (k : Int) := IntWalk.i64_in _ (by omega)
      have hk1 : (0 : Int) ≤ (k : Int) + 1 := by omega
      have hk2 : ((k : Int) + 1).toNat = k + 1 := by omega
      have hsB1 : sb < wr.heap.size := by omega
      have hRc := hBR.cell
      have hRl := hBR.lt
      have hRf := hBR.frozen
      go_upto_region 4 with fail
      go_cut [8] from 10 (fun x8 w' => x8 = .bool q ∧ Below w.heap.size w w' ∧ Blk w' w.heap.size 54 #[.int .i64 m, .int .i64 c, (Value.bool (o).opaq), (Value.int .i64 (o).id), (Value.string ⟨((o).scheme).toArray⟩), (Value.string ⟨(((o).host).name).toArray⟩), (Value.bool ((o).host).v4), (Value.int .u32 (((o).host).addr : Int)), (Value.int .i64 (o).port), .int .i64 cp])
      case first =>
        go_region_held3 (fun W => Below w.heap.size w W ∧ w.heap.size ≤ W.heap.size ∧ w.heap.size < W.heap.size ∧ (∀ n0, W.cell? ⟨w.heap.size, n0, none⟩ = (#[.int .i64 m, .int .i64 c, (Value.bool (o).opaq), (Value.int .i64 (o).id), (Value.string ⟨((o).scheme).toArray⟩), (Value.string ⟨(((o).host).name).toArray⟩), (Value.bool ((o).host).v4), (Value.int .u32 (((o).host).addr : Int)), (Value.int .i64 (o).port), .int .i64 cp] : Array Value)[n0]?) ∧ W.cell? ⟨sb, so + k * 10, none⟩ = some ((Value.string ⟨((x.url).scheme).toArray⟩)) ∧ W.cell? ⟨sb, so + k * 10 + 1, none⟩ = some ((Value.string ⟨((x.url).host.name).toArray⟩)) ∧ W.cell? ⟨sb, so + k * 10 + 2, none⟩ = some (.bool (x.url).host.v4) ∧ W.cell? ⟨sb, so + k * 10 + 3, none⟩ = some (.int .u32 ((x.url).host.addr : Int)) ∧ W.cell? ⟨sb, so + k * 10 + 4, none⟩ = some (.int .i64 (x.url).port) ∧ W.cell? ⟨sb, so + k * 10 + 5, none⟩ = some ((Value.string ⟨((x.url).path).toArray⟩)) ∧ W.cell? ⟨sb, so + k * 10 + 6, none⟩ = some (.bool (x.url).hasQuery) ∧ W.cell? ⟨sb, so + k * 10 + 7, none⟩ = some ((Value.string ⟨((x.url).query).toArray⟩)) ∧ W.cell? ⟨sb, so + k * 10 + 8, none⟩ = some ((Value.string ⟨((x.url).rest).toArray⟩)) ∧ W.cell? ⟨sb, so + k * 10 + 9, none⟩ = some (x.vh)) ((refine ⟨bw_, by first | omega | (simp; omega), by first | omega | (simp; omega), by exact Blk.cell (t := 54) (bk_), q0 _ (bw_), q1 _ (bw_), q2 _ (bw_), q3 _ (bw_), q4 _ (bw_), q5 _ (bw_), q6 _ (bw_), q7 _ (bw_), q8 _ (bw_), q9 _ (bw_)⟩)) (first | (go_at_call 29; refine (hown.out _).mono ?_; rintro e w1 ⟨rfl, hb⟩; obtain ⟨hc, hfz⟩ := bcell hb; have hz := hb.size; (try simp at hz); (try have hz0 := lt_ hb w.heap.size); (try have hz1 := lt_ hb (w.heap.size + 1)); (try have hz2 := lt_ hb (w.heap.size + 2)); (try have hz3 := lt_ hb (w.heap.size + 3)); (try have hcA := fun o => hc w.heap.size o sz_); (try have hcB := fun o => hc (w.heap.size + 1) o sz_)))
        all_goals go_wp2_with fail
        all_goals go_meet
        all_goals exact ⟨rfl, bw_, bk_⟩
      case rest =>
      clear hw0 hwz hBR hRc hRl hRf
      obtain ⟨rfl, hw0, hBR⟩ := hcut
      have hwz := hw0.size
      have hRc := hBR.cell
      have hRl := hBR.lt
      have hRf := hBR.frozen
      go_upto_region 5 with fail
      go_cut [9] from 10 (fun x9 w' => x9 = .bool z2 ∧ Below w.heap.size w w' ∧ Blk w' w.heap.size 54 #[.int .i64 m, .int .i64 c, (Value.bool (o).opaq), (Value.int .i64 (o).id), (Value.string ⟨((o).scheme).toArray⟩), (Value.string ⟨(((o).host).name).toArray⟩), (Value.bool ((o).host).v4), (Value.int .u32 (((o).host).addr : Int)), (Value.int .i64 (o).port), .int .i64 cp])
      case first =>
        go_region_held3 (fun W => Below w.heap.size w W ∧ w.heap.size ≤ W.heap.size ∧ w.heap.size < W.heap.size ∧ (∀ n0, W.cell? ⟨w.heap.size, n0, none⟩ = (#[.int .i64 m, .int .i64 c, (Value.bool (o).opaq), (Value.int .i64 (o).id), (Value.string ⟨((o).scheme).toArray⟩), (Value.string ⟨(((o).host).name).toArray⟩), (Value.bool ((o).host).v4), (Value.int .u32 (((o).host).addr : Int)), (Value.int .i64 (o).port), .int .i64 cp] : Array Value)[n0]?) ∧ W.cell? ⟨sb, so + k * 10, none⟩ = some ((Value.string ⟨((x.url).scheme).toArray⟩)) ∧ W.cell? ⟨sb, so + k * 10 + 1, none⟩ = some ((Value.string ⟨((x.url).host.name).toArray⟩)) ∧ W.cell? ⟨sb, so + k * 10 + 2, none⟩ = some (.bool (x.url).host.v4) ∧ W.cell? ⟨sb, so + k * 10 + 3, none⟩ = some (.int .u32 ((x.url).host.addr : Int)) ∧ W.cell? ⟨sb, so + k * 10 + 4, none⟩ = some (.int .i64 (x.url).port) ∧ W.cell? ⟨sb, so + k * 10 + 5, none⟩ = some ((Value.string ⟨((x.url).path).toArray⟩)) ∧ W.cell? ⟨sb, so + k * 10 + 6, none⟩ = some (.bool (x.url).hasQuery) ∧ W.cell? ⟨sb, so + k * 10 + 7, none⟩ = some ((Value.string ⟨((x.url).query).toArray⟩)) ∧ W.cell? ⟨sb, so + k * 10 + 8, none⟩ = some ((Value.string ⟨((x.url).rest).toArray⟩)) ∧ W.cell? ⟨sb, so + (k + 1) * 10, none⟩ = some ((Value.string ⟨((y.url).scheme).toArray⟩)) ∧ W.cell? ⟨sb, so + (k + 1) * 10 + 1, none⟩ = some ((Value.string ⟨((y.url).host.name).toArray⟩)) ∧ W.cell? ⟨sb, so + (k + 1) * 10 + 2, none⟩ = some (.bool (y.url).host.v4) ∧ W.cell? ⟨sb, so + (k + 1) * 10 + 3, none⟩ = some (.int .u32 ((y.url).host.addr : Int)) ∧ W.cell? ⟨sb, so + (k + 1) * 10 + 4, none⟩ = some (.int .i64 (y.url).port) ∧ W.cell? ⟨sb, so + (k + 1) * 10 + 5, none⟩ = some ((Value.string ⟨((y.url).path).toArray⟩)) ∧ W.cell? ⟨sb, so + (k + 1) * 10 + 6, none⟩ = some (.bool (y.url).hasQuery) ∧ W.cell? ⟨sb, so + (k + 1) * 10 + 7, none⟩ = some ((Value.string ⟨((y.url).query).toArray⟩)) ∧ W.cell? ⟨sb, so + (k + 1) * 10 + 8, none⟩ = some ((Value.string ⟨((y.url).rest).toArray⟩))) ((refine ⟨bw_, by first | omega | (simp; omega), by first | omega | (simp; omega), by exact Blk.cell (t := 54) (bk_), q0 _ (bw_), q1 _ (bw_), q2 _ (bw_), q3 _ (bw_), q4 _ (bw_), q5 _ (bw_), q6 _ (bw_), q7 _ (bw_), q8 _ (bw_), p0 _ (bw_), p1 _ (bw_), p2 _ (bw_), p3 _ (bw_), p4 _ (bw_), p5 _ (bw_), p6 _ (bw_), p7 _ (bw_), p8 _ (bw_)⟩)) (first | ((first | (go_at_call 69; refine (hof1.out _).mono ?_) | (go_at_call 69; refine (hof2.out _).mono ?_) | (go_at_call 70; refine (hsm.out _).mono ?_)); rintro e w1 ⟨rfl, hb⟩; obtain ⟨hc, hfz⟩ := bcell hb; have hz := hb.size; (try simp at hz); (try have hz0 := lt_ hb w.heap.size); (try have hz1 := lt_ hb (w.heap.size + 1)); (try have hz2 := lt_ hb (w.heap.size + 2)); (try have hz3 := lt_ hb (w.heap.size + 3)); (try have hcA := fun o => hc w.heap.size o sz_); (try have hcB := fun o => hc (w.heap.size + 1) o sz_)))
        all_goals go_wp2_with fail
        all_goals go_meet
        all_goals exact ⟨rfl, bw_, bk_⟩
      case rest =>
      clear hw0 hwz hBR hRc hRl hRf q0 q1 q2 q3 q4 q5 q6 q7 q8 q9 p0 p1 p2 p3 p4 p5 p6 p7 p8 p9
      obtain ⟨rfl, hw0, hBR⟩ := hcut
      have hst2 := hstep.out
      cases q
      · cases z2
        · have hf := Lib.hid (hR1.out hst2)
          clear hR1 hst2 hstep
          go_wp2_with fail
          go_ret
          exact ⟨by rw [hf.out] <;> rfl, bw_⟩
        · clear hR1 hst2
          go_wp2_with fail
          go_roundw
          case rel => exact ⟨k + 1, by omega, by go_num, hstep.out, hw0, hBR⟩
          case measure => simp [intOf]; omega
      · clear hR1 hst2
        go_wp2_with fail
        go_roundw
        case rel => exact ⟨k + 1, by omega, by go_num, hstep.out, hw0, hBR⟩
        case measure => simp [intOf]; omega
    · obtain rfl : k = j := by omega
      have hf : R = false := by rw [← hR.out]; exact hfk
      replace hf := Lib.hid hf
      clear hR hfk hmono
      go_wp2_with fail
      go_ret
      exact ⟨by rw [hf.out] <;> rfl, bw_⟩
set_option maxRecDepth 100000 in
set_option maxHeartbeats 40000000 in
theorem ref13_may (v : Value) (L : List Gl.Hop) (w : World) (hv : Hops w v L) : Calls Tryz.prog 64 #[v] w (Ret w (.bool (Gl.mayH L))) := by
  have H := Lib.hid hv
  obtain ⟨A, cc, rfl⟩ := hv.form
  clear hv
  obtain ⟨R, hR⟩ : ∃ R, Gl.mayH L = R := ⟨_, rfl⟩
  rw [hR]
  unfold Gl.mayH at hR
  by_cases h1 : L.length < 1
  · have hf : Hid (R = false) := Lib.hid (by rw [← hR, decide_eq_false (by omega : ¬ 1 ≤ L.length)]; rfl)
    go_enter Tryz.func64, Tryz.ntmps64
    go_wp2
    go_ret
    exact ⟨by rw [hf.out] <;> rfl, bw_⟩
  by_cases h21 : 21 < L.length
  · have hf : Hid (R = false) := Lib.hid (by rw [← hR, decide_eq_false (by omega : ¬ L.length ≤ 21), Bool.and_false]; rfl)
    go_enter Tryz.func64, Tryz.ntmps64
    go_wp2
    go_ret
    exact ⟨by rw [hf.out] <;> rfl, bw_⟩
  rw [decide_eq_true (by omega : 1 ≤ L.length), decide_eq_true (by omega : L.length ≤ 21), Bool.true_and, Bool.true_and] at hR
  replace hR := Lib.hid hR
  go_enter Tryz.func64, Tryz.ntmps64
  go_wp2
  go_loopw [3, 4] (fun i _ wr => ∃ k : Nat, k ≤ L.length ∧ i = .int .i64 (k : Int) ∧ Hid ((decide (L.length = 1) || (L.drop k).all (fun h => Gl.isNet h.url)) = R) ∧ Below w.heap.size w wr) (fun i _ _ => L.length - (intOf i).toNat)
  case atStart => exact ⟨0, Nat.zero_le _, rfl, hR, bw_⟩
  case round =>
    obtain ⟨k, hk, rfl, hr, hw0⟩ := hrel
    have hwz := hw0.size
    by_cases hlt : k < L.length
    · obtain ⟨sb, so, sd, he, hsB, hcell⟩ := H.out.cells k hlt
      injection he with he1 he2 he3
      subst he1 he3
      have q0 := fun (W : World) (hW : Below w.heap.size w W) => (hW.cell (p := ⟨sb, so + k * 10 + 0, none⟩) hsB).trans (hcell 0 (by decide))
      have q1 := fun (W : World) (hW : Below w.heap.size w W) => (hW.cell (p := ⟨sb, so + k * 10 + 1, none⟩) hsB).trans (hcell 1 (by decide))
      have q2 := fun (W : World) (hW : Below w.heap.size w W) => (hW.cell (p := ⟨sb, so + k * 10 + 2, none⟩) hsB).trans (hcell 2 (by decide))
      have q3 := fun (W : World) (hW : Below w.heap.size w W) => (hW.cell (p := ⟨sb, so + k * 10 + 3, none⟩) hsB).trans (hcell 3 (by decide))
      have q4 := fun (W : World) (hW : Below w.heap.size w W) => (hW.cell (p := ⟨sb, so + k * 10 + 4, none⟩) hsB).trans (hcell 4 (by decide))
      have q5 := fun (W : World) (hW : Below w.heap.size w W) => (hW.cell (p := ⟨sb, so + k * 10 + 5, none⟩) hsB).trans (hcell 5 (by decide))
      have q6 := fun (W : World) (hW : Below w.heap.size w W) => (hW.cell (p := ⟨sb, so + k * 10 + 6, none⟩) hsB).trans (hcell 6 (by decide))
      have q7 := fun (W : World) (hW : Below w.heap.size w W) => (hW.cell (p := ⟨sb, so + k * 10 + 7, none⟩) hsB).trans (hcell 7 (by decide))
      have q8 := fun (W : World) (hW : Below w.heap.size w W) => (hW.cell (p := ⟨sb, so + k * 10 + 8, none⟩) hsB).trans (hcell 8 (by decide))
      have q9 := fun (W : World) (hW : Below w.heap.size w W) => (hW.cell (p := ⟨sb, so + k * 10 + 9, none⟩) hsB).trans (hcell 9 (by decide))
      rw [← hopAt_lt hlt] at q0 q1 q2 q3 q4 q5 q6 q7 q8 q9
      simp only [hopcells, Nat.add_zero, List.getElem?_toArray, List.getElem?_cons_zero, List.getElem?_cons_succ] at q0 q1 q2 q3 q4 q5 q6 q7 q8 q9
      clear hcell
      have hnt := fun W => ref3_net (hopAt L k).url W
      have hr2 := hr.out
      rw [drop_consX hlt, List.all_cons, ← hopAt_lt hlt] at hr2
      clear hr
      generalize hopAt L k = x at *
      generalize Gl.isNet x.url = q at *
      replace hnt := Lib.hid hnt
      have hsB1 : sb < wr.heap.size := by omega
      have x0 := q0 _ hw0
      have x1 := q1 _ hw0
      have x2 := q2 _ hw0
      have x3 := q3 _ hw0
      have x4 := q4 _ hw0
      have x5 := q5 _ hw0
      have x6 := q6 _ hw0
      have x7 := q7 _ hw0
      have x8 := q8 _ hw0
      clear q0 q1 q2 q3 q4 q5 q6 q7 q8 q9
      cases q
      · by_cases hn : L.length = 1
        · replace hr2 : Hid ((decide (L.length = 1) || (L.drop (k + 1)).all (fun h => Gl.isNet h.url)) = R) := Lib.hid (by rw [← hr2, decide_eq_true hn]; rfl)
          have hn1 : L.length ≤ 1 := by omega
          clear hn
          go_wp2_with (go_at_call 65; refine (hnt.out _).mono ?_; rintro e w1 ⟨rfl, hb⟩; obtain ⟨hc, hfz⟩ := bcell hb; have hz := hb.size; (try simp at hz); (try have hz0 := lt_ hb w.heap.size); (try have hz1 := lt_ hb (w.heap.size + 1)); (try have hz2 := lt_ hb (w.heap.size + 2)); (try have hz3 := lt_ hb (w.heap.size + 3)); (try have hcA := fun o => hc w.heap.size o sz_); (try have hcB := fun o => hc (w.heap.size + 1) o sz_))
          go_roundw
          case rel => exact ⟨k + 1, by omega, by go_num, hr2, bw_⟩
          case measure => simp [intOf]; omega
        · have hf : Hid (R = false) := Lib.hid (by rw [← hr2, decide_eq_false hn]; rfl)
          have hn1 : 1 < L.length := by omega
          clear hr2
          go_wp2_with (go_at_call 65; refine (hnt.out _).mono ?_; rintro e w1 ⟨rfl, hb⟩; obtain ⟨hc, hfz⟩ := bcell hb; have hz := hb.size; (try simp at hz); (try have hz0 := lt_ hb w.heap.size); (try have hz1 := lt_ hb (w.heap.size + 1)); (try have hz2 := lt_ hb (w.heap.size + 2)); (try have hz3 := lt_ hb (w.heap.size + 3)); (try have hcA := fun o => hc w.heap.size o sz_); (try have hcB := fun o => hc (w.heap.size + 1) o sz_))
          go_ret
          exact ⟨by rw [hf.out] <;> rfl, bw_⟩
      · replace hr2 : Hid ((decide (L.length = 1) || (L.drop (k + 1)).all (fun h => Gl.isNet h.url)) = R) := Lib.hid hr2
        go_wp2_with (go_at_call 65; refine (hnt.out _).mono ?_; rintro e w1 ⟨rfl, hb⟩; obtain ⟨hc, hfz⟩ := bcell hb; have hz := hb.size; (try simp at hz); (try have hz0 := lt_ hb w.heap.size); (try have hz1 := lt_ hb (w.heap.size + 1)); (try have hz2 := lt_ hb (w.heap.size + 2)); (try have hz3 := lt_ hb (w.heap.size + 3)); (try have hcA := fun o => hc w.heap.size o sz_); (try have hcB := fun o => hc (w.heap.size + 1) o sz_))
        go_roundw
        case rel => exact ⟨k + 1, by omega, by go_num, hr2, bw_⟩
        case measure => simp [intOf]; omega
    · have hf : Hid (R = true) := Lib.hid (by rw [← hr.out, List.drop_eq_nil_of_le (by omega)]; simp)
      clear hr
      go_wp2
      go_ret
      exact ⟨by rw [hf.out] <;> rfl, bw_⟩
end Go.Proofs.YtbafofldgkigmaaGreatDoor
