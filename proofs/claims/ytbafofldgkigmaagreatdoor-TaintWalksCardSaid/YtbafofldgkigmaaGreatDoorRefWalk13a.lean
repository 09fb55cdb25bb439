/- glacisref13.Walk, at mode 1. -/
import Derived.Test.YtbafofldgkigmaaGreatDoorRefNull13
import Derived.Test.YtbafofldgkigmaaGreatDoorFourB
namespace Go.Proofs.YtbafofldgkigmaaGreatDoor
open Go.RowKit
attribute [local irreducible] Calls
set_option maxRecDepth 100000 in
set_option maxHeartbeats 40000000 in
theorem ref13_walk1 (c cp : Int) (o : Gl.Origin) (v : Value) (L : List Gl.Hop) (w : World) (hE : Env w) (ho : OWide o) (hv : Hops w v L) (hf : ∀ h ∈ L, (∀ x ∈ h.head, HeadFit x) ∧ h.head.length ≤ 1000000 ∧ h.url.rest.length ≤ 3000) (hLl : L.length ≤ 1000000) :
    Calls Tryz.prog 28 #[.agg #[.int .i64 1, .int .i64 c, (Value.bool (o).opaq), (Value.int .i64 (o).id), (Value.string ⟨((o).scheme).toArray⟩), (Value.string ⟨(((o).host).name).toArray⟩), (Value.bool ((o).host).v4), (Value.int .u32 (((o).host).addr : Int)), (Value.int .i64 (o).port), .int .i64 cp], v] w (Ret w (.tuple #[gotV (Gl.walk 1 c cp o L).1, .int .i64 (Gl.walk 1 c cp o L).2])) := by
  have hfr : ∀ h ∈ L, h.url.rest.length ≤ 3000 := fun h hh => (hf h hh).2.2
  have H := Lib.hid hv
  have hmy := fun W (hW : Below w.heap.size w W) => ref13_may v L W (hv.below hW)
  obtain ⟨A, cc, rfl⟩ := hv.form
  obtain ⟨G, hG⟩ : ∃ G, Gl.walk 1 c cp o L = G := ⟨_, rfl⟩
  rw [hG]
  unfold Gl.walk at hG
  rw [if_neg (by decide)] at hG
  by_cases hM : Gl.mayH L = false
  · have hf1 : Hid (G = ({}, 130)) := Lib.hid (by rw [← hG, if_pos hM])
    rw [hM] at hmy
    replace hmy := Lib.hid hmy
    clear hG hv hf ho hE H hM
    go_enter Tryz.func28, Tryz.ntmps28
    go_wp2_with (go_at_call 64; refine (hmy.out _ (bw_)).mono ?_; rintro e w1 ⟨rfl, hb⟩; obtain ⟨hc, hfz⟩ := bcell hb; have hz := hb.size; (try simp at hz); (try have hz0 := lt_ hb w.heap.size); (try have hz1 := lt_ hb (w.heap.size + 1)); (try have hz2 := lt_ hb (w.heap.size + 2)); (try have hz3 := lt_ hb (w.heap.size + 3)); (try have hcA := fun o => hc w.heap.size o sz_); (try have hcB := fun o => hc (w.heap.size + 1) o sz_))
    refine bodyPost_ret (v := .tuple #[.agg #[(.int .i64 0), (.bool false), (.bool false)], .int .i64 130]) (by simp only [results, Tryz.results28]; go_simp) rfl ⟨by rw [hf1.out] <;> rfl, bw_⟩
  rw [if_neg hM] at hG
  replace hM : Gl.mayH L = true := by simpa using hM
  have hl : 1 ≤ L.length ∧ L.length ≤ 21 := by
    unfold Gl.mayH at hM
    simp only [Bool.and_eq_true, decide_eq_true_eq] at hM
    exact hM.1
  rw [hM] at hmy
  replace hmy := Lib.hid hmy
  obtain ⟨hl1, hl21⟩ := hl
  have h00 : 0 < L.length := by omega
  have hnt := fun W => ref3_net (uAt L 0) W
  have he1 : ((L.length - 1 : Nat) : Int) = (L.length : Int) - 1 := by omega
  have he2 : L.length - 1 + 1 = L.length := by omega
  have hnl := fun W (hW : Below w.heap.size w W) => ref13_null 1 c cp o _ L (L.length - 1) W (hv.below hW) hfr (by omega) hLl
  have hfo := fun W (hW : Below w.heap.size w W) => ref13_foreign 1 c cp o _ L (L.length - 1) W (hv.below hW) hfr (by omega) hLl
  have how := fun W => ref13_own 1 c cp o (uAt L (L.length - 1)) (hopAt L (L.length - 1)).vh W (by have := hfr _ (List.getElem_mem (by omega : L.length - 1 < L.length)); unfold uAt; rw [hopAt_lt (by omega)]; omega)
  rw [he1, he2] at hnl hfo
  have htx := fun W (hW : Below w.heap.size w W) => ref4_text o W (hE.below hW) ho
  have hnk := fun W (hW : Below w.heap.size w W) k (hk : k < L.length) => ref13_null 1 c cp o _ L k W (hv.below hW) hfr hk hLl
  have hfk := fun W (hW : Below w.heap.size w W) k (hk : k < L.length) => ref13_foreign 1 c cp o _ L k W (hv.below hW) hfr hk hLl
  have hsh := fun W (hW : Below w.heap.size w W) k (hk : k < L.length) t i => ref13_shared (hopAt L k).vh (hopAt L k).head t i W (by rw [hopAt_lt hk]; exact (hv.2 _ (List.getElem_mem hk)).below hW) (by rw [hopAt_lt hk]; exact (hf _ (List.getElem_mem hk)).1) (by rw [hopAt_lt hk]; exact (hf _ (List.getElem_mem hk)).2.1)
  clear hM
  obtain ⟨sb, so, sd, he, hsB, hcell⟩ := H.out.cells 0 h00
  injection he with he1 he2 he3
  subst he1 he3
  have q0 := fun (W : World) (hW : Below w.heap.size w W) => (hW.cell (p := ⟨sb, so + 0 * 10 + 0, none⟩) hsB).trans (hcell 0 (by decide))
  have q1 := fun (W : World) (hW : Below w.heap.size w W) => (hW.cell (p := ⟨sb, so + 0 * 10 + 1, none⟩) hsB).trans (hcell 1 (by decide))
  have q2 := fun (W : World) (hW : Below w.heap.size w W) => (hW.cell (p := ⟨sb, so + 0 * 10 + 2, none⟩) hsB).trans (hcell 2 (by decide))
  have q3 := fun (W : World) (hW : Below w.heap.size w W) => (hW.cell (p := ⟨sb, so + 0 * 10 + 3, none⟩) hsB).trans (hcell 3 (by decide))
  have q4 := fun (W : World) (hW : Below w.heap.size w W) => (hW.cell (p := ⟨sb, so + 0 * 10 + 4, none⟩) hsB).trans (hcell 4 (by decide))
  have q5 := fun (W : World) (hW : Below w.heap.size w W) => (hW.cell (p := ⟨sb, so + 0 * 10 + 5, none⟩) hsB).trans (hcell 5 (by decide))
  have q6 := fun (W : World) (hW : Below w.heap.size w W) => (hW.cell (p := ⟨sb, so + 0 * 10 + 6, none⟩) hsB).trans (hcell 6 (by decide))
  have q7 := fun (W : World) (hW : Below w.heap.size w W) => (hW.cell (p := ⟨sb, so + 0 * 10 + 7, none⟩) hsB).trans (hcell 7 (by decide))
  have q8 := fun (W : World) (hW : Below w.heap.size w W) => (hW.cell (p := ⟨sb, so + 0 * 10 + 8, none⟩) hsB).trans (hcell 8 (by decide))
  have q9 := fun (W : World) (hW : Below w.heap.size w W) => (hW.cell (p := ⟨sb, so + 0 * 10 + 9, none⟩) hsB).trans (hcell 9 (by decide))
  rw [← hopAt_lt h00] at q0 q1 q2 q3 q4 q5 q6 q7 q8 q9
  simp only [hopcells, Nat.zero_mul, Nat.add_zero, List.getElem?_toArray, List.getElem?_cons_zero, List.getElem?_cons_succ] at q0 q1 q2 q3 q4 q5 q6 q7 q8 q9
  clear hcell
  have hu0 : uAt L 0 = (hopAt L 0).url := rfl
  obtain ⟨net, hnet⟩ : ∃ b, Gl.isNet (uAt L 0) = b := ⟨_, rfl⟩
  rw [hnet] at hnt hG
  rw [hu0] at hnt
  clear hu0 hnet hv
  generalize hopAt L 0 = x at *
  replace hnt := Lib.hid hnt
  replace hnl := Lib.hid hnl
  replace hfo := Lib.hid hfo
  replace how := Lib.hid how
  replace htx := Lib.hid htx
  replace hnk := Lib.hid hnk
  replace hfk := Lib.hid hfk
  replace hsh := Lib.hid hsh
  replace hG := Lib.hid hG
  replace hf := Lib.hid hf
  replace he1 := Lib.hid he1
  replace he2 := Lib.hid he2
  clear hfr
  go_enter Tryz.func28, Tryz.ntmps28
  go_upto_region 1 with fail
  generalize hW0 : ((w.alloc (Obj.cells #[.int .i64 1, .int .i64 c, (Value.bool (o).opaq), (Value.int .i64 (o).id), (Value.string ⟨((o).scheme).toArray⟩), (Value.string ⟨(((o).host).name).toArray⟩), (Value.bool ((o).host).v4), (Value.int .u32 (((o).host).addr : Int)), (Value.int .i64 (o).port), .int .i64 cp] 54)).alloc (Obj.cells #[(.int .i64 0), (.bool false), (.bool false)] 58)) = W0
  have hw0 : Below w.heap.size w W0 := by rw [← hW0]; (exact bw_)
  have hBR : Blk W0 (w.heap.size) 54 #[.int .i64 1, .int .i64 c, (Value.bool (o).opaq), (Value.int .i64 (o).id), (Value.string ⟨((o).scheme).toArray⟩), (Value.string ⟨(((o).host).name).toArray⟩), (Value.bool ((o).host).v4), (Value.int .u32 (((o).host).addr : Int)), (Value.int .i64 (o).port), .int .i64 cp] := by rw [← hW0]; exact (Blk.alloc (Blk.new _ _ _) _)
  have hBZ : Blk W0 (w.heap.size + 1) 58 #[(.int .i64 0), (.bool false), (.bool false)] := by rw [← hW0]; exact (by have := Blk.new (w.alloc (Obj.cells #[.int .i64 1, .int .i64 c, (Value.bool (o).opaq), (Value.int .i64 (o).id), (Value.string ⟨((o).scheme).toArray⟩), (Value.string ⟨(((o).host).name).toArray⟩), (Value.bool ((o).host).v4), (Value.int .u32 (((o).host).addr : Int)), (Value.int .i64 (o).port), .int .i64 cp] 54)) 58 #[(.int .i64 0), (.bool false), (.bool false)]; simpa [World.size_alloc] using this)
  clear hW0
  have hwz := hw0.size
  have hRl := hBR.lt
  have hRc := hBR.cell
  have hRf := hBR.frozen
  have hZl := hBZ.lt
  have hZc := hBZ.cell
  have hZf := hBZ.frozen
  go_upto_region 3 with fail
  go_cut [6] from 17 (fun x6 w' => x6 = .bool true ∧ Below w.heap.size w w' ∧ Blk w' (w.heap.size) 54 #[.int .i64 1, .int .i64 c, (Value.bool (o).opaq), (Value.int .i64 (o).id), (Value.string ⟨((o).scheme).toArray⟩), (Value.string ⟨(((o).host).name).toArray⟩), (Value.bool ((o).host).v4), (Value.int .u32 (((o).host).addr : Int)), (Value.int .i64 (o).port), .int .i64 cp] ∧ Blk w' (w.heap.size + 1) 58 #[(.int .i64 0), (.bool false), (.bool false)])
  case first =>
    go_wp2_with (go_at_call 64; refine (hmy.out _ (bw_)).mono ?_; rintro e w1 ⟨rfl, hb⟩; obtain ⟨hc, hfz⟩ := bcell hb; have hz := hb.size; (try simp at hz); (try have hz0 := lt_ hb w.heap.size); (try have hz1 := lt_ hb (w.heap.size + 1)); (try have hz2 := lt_ hb (w.heap.size + 2)); (try have hz3 := lt_ hb (w.heap.size + 3)); (try have hcA := fun o => hc w.heap.size o sz_); (try have hcB := fun o => hc (w.heap.size + 1) o sz_))
    go_meet
    case rel =>
      exact ⟨rfl, bw_, bk_, bk_⟩
  case rest =>
  clear hw0 hwz hRl hRc hRf hZl hZc hZf hBR hBZ 
  obtain ⟨rfl, hw0, hBR, hBZ⟩ := hcut
  have hwz := hw0.size
  have hRl := hBR.lt
  have hRc := hBR.cell
  have hRf := hBR.frozen
  have hZl := hBZ.lt
  have hZc := hBZ.cell
  have hZf := hBZ.frozen
  have x0 := q0 _ hw0
  have x1 := q1 _ hw0
  have x2 := q2 _ hw0
  have x3 := q3 _ hw0
  have x4 := q4 _ hw0
  have x5 := q5 _ hw0
  have x6 := q6 _ hw0
  have x7 := q7 _ hw0
  have x8 := q8 _ hw0
  have hsB1 : sb < wc.heap.size := by omega
  go_upto_region 6 with fail
  go_cut [7] from 17 (fun x7 w' => x7 = .bool net ∧ Below w.heap.size w w' ∧ Blk w' (w.heap.size) 54 #[.int .i64 1, .int .i64 c, (Value.bool (o).opaq), (Value.int .i64 (o).id), (Value.string ⟨((o).scheme).toArray⟩), (Value.string ⟨(((o).host).name).toArray⟩), (Value.bool ((o).host).v4), (Value.int .u32 (((o).host).addr : Int)), (Value.int .i64 (o).port), .int .i64 cp] ∧ Blk w' (w.heap.size + 1) 58 #[(.int .i64 0), (.bool false), (.bool false)])
  case first =>
    go_wp2_with (go_at_call 65; refine (hnt.out _).mono ?_; rintro e w1 ⟨rfl, hb⟩; obtain ⟨hc, hfz⟩ := bcell hb; have hz := hb.size; (try simp at hz); (try have hz0 := lt_ hb w.heap.size); (try have hz1 := lt_ hb (w.heap.size + 1)); (try have hz2 := lt_ hb (w.heap.size + 2)); (try have hz3 := lt_ hb (w.heap.size + 3)); (try have hcA := fun o => hc w.heap.size o sz_); (try have hcB := fun o => hc (w.heap.size + 1) o sz_))
    go_meet
    case rel =>
      exact ⟨rfl, bw_, bk_, bk_⟩
  case rest =>
  clear hw0 hwz hRl hRc hRf hZl hZc hZf hBR hBZ 
  obtain ⟨rfl, hw0, hBR, hBZ⟩ := hcut
  have hwz := hw0.size
  have hRl := hBR.lt
  have hRc := hBR.cell
  have hRf := hBR.frozen
  have hZl := hBZ.lt
  have hZc := hBZ.cell
  have hZf := hBZ.frozen
  clear hsB1 x0 x1 x2 x3 x4 x5 x6 x7 x8 q0 q1 q2 q3 q4 q5 q6 q7 q8 q9
  cases net
  · have hf1 : Hid (G = ({ taint := 1 }, 0)) := Lib.hid (by rw [← hG.out, if_pos rfl])
    clear hG
    go_wp2_with fail
    refine bodyPost_ret (v := .tuple #[.agg #[(.int .i64 1), (.bool false), (.bool false)], .int .i64 0]) (by simp only [results, Tryz.results28]; go_simp) rfl ⟨by rw [hf1.out] <;> rfl, bw_⟩
  replace hG := Lib.hid (by have := hG.out; rwa [if_neg (by decide)] at this)
  go_upto_region 9 with fail
  go_cut [8] from 17 (fun x8 w' => x8 = .int .i64 ((L.length : Int) - 1) ∧ Below w.heap.size w w' ∧ Blk w' (w.heap.size) 54 #[.int .i64 1, .int .i64 c, (Value.bool (o).opaq), (Value.int .i64 (o).id), (Value.string ⟨((o).scheme).toArray⟩), (Value.string ⟨(((o).host).name).toArray⟩), (Value.bool ((o).host).v4), (Value.int .u32 (((o).host).addr : Int)), (Value.int .i64 (o).port), .int .i64 cp] ∧ Blk w' (w.heap.size + 1) 58 #[(.int .i64 0), (.bool false), (.bool false)])
  case first =>
    go_wp2_with fail
    go_meet
    case rel =>
      exact ⟨rfl, bw_, bk_, bk_⟩
  case rest =>
  clear hw0 hwz hRl hRc hRf hZl hZc hZf hBR hBZ 
  obtain ⟨rfl, hw0, hBR, hBZ⟩ := hcut
  have hwz := hw0.size
  have hRl := hBR.lt
  have hRc := hBR.cell
  have hRf := hBR.frozen
  have hZl := hBZ.lt
  have hZc := hBZ.cell
  have hZf := hBZ.frozen
  generalize hnu : Gl.nullK o L L.length = nu at *
  generalize hot : Gl.foreignK o L L.length = other at *
  generalize hww : Gl.ownH o (uAt L (L.length - 1)) = own at *
  replace hnu := Lib.hid hnu
  replace hot := Lib.hid hot
  replace hww := Lib.hid hww
  go_upto_region 10 with fail
  go_cut [9] from 17 (fun x9 w' => ∃ gP, x9 = .pointer (some ⟨gP, 0, none⟩) ∧ Below w.heap.size w w' ∧ Blk w' (w.heap.size) 54 #[.int .i64 1, .int .i64 c, (Value.bool (o).opaq), (Value.int .i64 (o).id), (Value.string ⟨((o).scheme).toArray⟩), (Value.string ⟨(((o).host).name).toArray⟩), (Value.bool ((o).host).v4), (Value.int .u32 (((o).host).addr : Int)), (Value.int .i64 (o).port), .int .i64 cp] ∧ Blk w' (w.heap.size + 1) 58 #[(.int .i64 0), (.bool false), (.bool false)] ∧ Blk w' (gP) 58 #[(.int .i64 1), (.bool false), (.bool nu)] ∧ w.heap.size + 1 < gP)
  case first =>
    go_wp2_with (go_at_call 66; refine (hnl.out _ (bw_)).mono ?_; rintro e w1 ⟨rfl, hb⟩; obtain ⟨hc, hfz⟩ := bcell hb; have hz := hb.size; (try simp at hz); (try have hz0 := lt_ hb w.heap.size); (try have hz1 := lt_ hb (w.heap.size + 1)); (try have hz2 := lt_ hb (w.heap.size + 2)); (try have hz3 := lt_ hb (w.heap.size + 3)); (try have hcA := fun o => hc w.heap.size o sz_); (try have hcB := fun o => hc (w.heap.size + 1) o sz_))
    go_meet
    case rel =>
      exact ⟨_, rfl, bw_, bk_, bk_, bk_, by first | omega | (simp; omega) | (simp; done)⟩
  case rest =>
  clear hw0 hwz hRl hRc hRf hZl hZc hZf hBR hBZ 
  obtain ⟨gP, rfl, hw0, hBR, hBZ, hBP, hzP⟩ := hcut
  have hwz := hw0.size
  have hRl := hBR.lt
  have hRc := hBR.cell
  have hRf := hBR.frozen
  have hZl := hBZ.lt
  have hZc := hBZ.cell
  have hZf := hBZ.frozen
  have hPl := hBP.lt
  have hPc := hBP.cell
  have hPf := hBP.frozen
  go_upto_region 11 with fail
  go_cut [10] from 17 (fun x10 w' => x10 = .bool other ∧ Below w.heap.size w w' ∧ Blk w' (w.heap.size) 54 #[.int .i64 1, .int .i64 c, (Value.bool (o).opaq), (Value.int .i64 (o).id), (Value.string ⟨((o).scheme).toArray⟩), (Value.string ⟨(((o).host).name).toArray⟩), (Value.bool ((o).host).v4), (Value.int .u32 (((o).host).addr : Int)), (Value.int .i64 (o).port), .int .i64 cp] ∧ Blk w' (w.heap.size + 1) 58 #[(.int .i64 0), (.bool false), (.bool false)] ∧ Blk w' (gP) 58 #[(.int .i64 1), (.bool false), (.bool nu)] ∧ w.heap.size + 1 < gP)
  case first =>
    go_wp2_with (go_at_call 67; refine (hfo.out _ (bw_)).mono ?_; rintro e w1 ⟨rfl, hb⟩; obtain ⟨hc, hfz⟩ := bcell hb; have hz := hb.size; (try simp at hz); (try have hz0 := lt_ hb w.heap.size); (try have hz1 := lt_ hb (w.heap.size + 1)); (try have hz2 := lt_ hb (w.heap.size + 2)); (try have hz3 := lt_ hb (w.heap.size + 3)); (try have hcA := fun o => hc w.heap.size o sz_); (try have hcB := fun o => hc (w.heap.size + 1) o sz_))
    go_meet
    case rel =>
      exact ⟨rfl, bw_, bk_, bk_, bk_, by first | omega | (simp; omega) | (simp; done)⟩
  case rest =>
  clear hw0 hwz hRl hRc hRf hZl hZc hZf hPl hPc hPf hBR hBZ hBP hzP
  obtain ⟨rfl, hw0, hBR, hBZ, hBP, hzP⟩ := hcut
  have hwz := hw0.size
  have hRl := hBR.lt
  have hRc := hBR.cell
  have hRf := hBR.frozen
  have hZl := hBZ.lt
  have hZc := hBZ.cell
  have hZf := hBZ.frozen
  have hPl := hBP.lt
  have hPc := hBP.cell
  have hPf := hBP.frozen
  obtain ⟨sb2, so2, sd2, he, hsB2, hcell⟩ := H.out.cells (L.length - 1) (by omega : L.length - 1 < L.length)
  injection he with he1 he2 he3
  injection he1 with he4
  injection he4 with he5 he6
  subst he5 he6
  clear he2 he3 hsB2
  have q0 := fun (W : World) (hW : Below w.heap.size w W) => (hW.cell (p := ⟨sb, so + (L.length - 1) * 10 + 0, none⟩) hsB).trans (hcell 0 (by decide))
  have q1 := fun (W : World) (hW : Below w.heap.size w W) => (hW.cell (p := ⟨sb, so + (L.length - 1) * 10 + 1, none⟩) hsB).trans (hcell 1 (by decide))
  have q2 := fun (W : World) (hW : Below w.heap.size w W) => (hW.cell (p := ⟨sb, so + (L.length - 1) * 10 + 2, none⟩) hsB).trans (hcell 2 (by decide))
  have q3 := fun (W : World) (hW : Below w.heap.size w W) => (hW.cell (p := ⟨sb, so + (L.length - 1) * 10 + 3, none⟩) hsB).trans (hcell 3 (by decide))
  have q4 := fun (W : World) (hW : Below w.heap.size w W) => (hW.cell (p := ⟨sb, so + (L.length - 1) * 10 + 4, none⟩) hsB).trans (hcell 4 (by decide))
  have q5 := fun (W : World) (hW : Below w.heap.size w W) => (hW.cell (p := ⟨sb, so + (L.length - 1) * 10 + 5, none⟩) hsB).trans (hcell 5 (by decide))
  have q6 := fun (W : World) (hW : Below w.heap.size w W) => (hW.cell (p := ⟨sb, so + (L.length - 1) * 10 + 6, none⟩) hsB).trans (hcell 6 (by decide))
  have q7 := fun (W : World) (hW : Below w.heap.size w W) => (hW.cell (p := ⟨sb, so + (L.length - 1) * 10 + 7, none⟩) hsB).trans (hcell 7 (by decide))
  have q8 := fun (W : World) (hW : Below w.heap.size w W) => (hW.cell (p := ⟨sb, so + (L.length - 1) * 10 + 8, none⟩) hsB).trans (hcell 8 (by decide))
  have q9 := fun (W : World) (hW : Below w.heap.size w W) => (hW.cell (p := ⟨sb, so + (L.length - 1) * 10 + 9, none⟩) hsB).trans (hcell 9 (by decide))
  rw [← hopAt_lt (by omega : L.length - 1 < L.length)] at q0 q1 q2 q3 q4 q5 q6 q7 q8 q9
  simp only [hopcells, Nat.add_zero, List.getElem?_toArray, List.getElem?_cons_zero, List.getElem?_cons_succ] at q0 q1 q2 q3 q4 q5 q6 q7 q8 q9
  clear hcell
  have hul : uAt L (L.length - 1) = (hopAt L (L.length - 1)).url := rfl
  replace how := how.out
  rw [hul] at how
  clear hul
  replace hsh := hsh.out
  generalize hopAt L (L.length - 1) = y at how q0 q1 q2 q3 q4 q5 q6 q7 q8 q9
  replace how := Lib.hid how
  replace hsh := Lib.hid hsh
  have hk0 : (0 : Int) ≤ (L.length : Int) - 1 := by omega
  have hk1 : (L.length : Int) - 1 < (L.length : Int) := by omega
  have hk2 : (1 : Int) ≤ (L.length : Int) := by omega
  have hsB1 : sb < wc.heap.size := by omega
  go_upto_region 12 with fail
  go_cut [11] from 17 (fun x11 w' => x11 = .bool own ∧ Below w.heap.size w w' ∧ Blk w' (w.heap.size) 54 #[.int .i64 1, .int .i64 c, (Value.bool (o).opaq), (Value.int .i64 (o).id), (Value.string ⟨((o).scheme).toArray⟩), (Value.string ⟨(((o).host).name).toArray⟩), (Value.bool ((o).host).v4), (Value.int .u32 (((o).host).addr : Int)), (Value.int .i64 (o).port), .int .i64 cp] ∧ Blk w' (w.heap.size + 1) 58 #[(.int .i64 0), (.bool false), (.bool false)] ∧ Blk w' (gP) 58 #[(.int .i64 1), (.bool false), (.bool nu)] ∧ w.heap.size + 1 < gP)
  case first =>
    go_region_held3 (fun W => Below w.heap.size w W ∧ w.heap.size ≤ W.heap.size ∧ w.heap.size < W.heap.size ∧ w.heap.size + 1 < W.heap.size ∧ gP < W.heap.size ∧ (∀ n0, W.cell? ⟨w.heap.size, n0, none⟩ = (#[.int .i64 1, .int .i64 c, (Value.bool (o).opaq), (Value.int .i64 (o).id), (Value.string ⟨((o).scheme).toArray⟩), (Value.string ⟨(((o).host).name).toArray⟩), (Value.bool ((o).host).v4), (Value.int .u32 (((o).host).addr : Int)), (Value.int .i64 (o).port), .int .i64 cp] : Array Value)[n0]?) ∧ (∀ n0, W.cell? ⟨w.heap.size + 1, n0, none⟩ = (#[(.int .i64 0), (.bool false), (.bool false)] : Array Value)[n0]?) ∧ (∀ n0, W.cell? ⟨gP, n0, none⟩ = (#[(.int .i64 1), (.bool false), (.bool nu)] : Array Value)[n0]?) ∧ W.cell? ⟨sb, so + (L.length - 1) * 10, none⟩ = some ((Value.string ⟨((y.url).scheme).toArray⟩)) ∧ W.cell? ⟨sb, so + (L.length - 1) * 10 + 1, none⟩ = some ((Value.string ⟨((y.url).host.name).toArray⟩)) ∧ W.cell? ⟨sb, so + (L.length - 1) * 10 + 2, none⟩ = some (.bool (y.url).host.v4) ∧ W.cell? ⟨sb, so + (L.length - 1) * 10 + 3, none⟩ = some (.int .u32 ((y.url).host.addr : Int)) ∧ W.cell? ⟨sb, so + (L.length - 1) * 10 + 4, none⟩ = some (.int .i64 (y.url).port) ∧ W.cell? ⟨sb, so + (L.length - 1) * 10 + 5, none⟩ = some ((Value.string ⟨((y.url).path).toArray⟩)) ∧ W.cell? ⟨sb, so + (L.length - 1) * 10 + 6, none⟩ = some (.bool (y.url).hasQuery) ∧ W.cell? ⟨sb, so + (L.length - 1) * 10 + 7, none⟩ = some ((Value.string ⟨((y.url).query).toArray⟩)) ∧ W.cell? ⟨sb, so + (L.length - 1) * 10 + 8, none⟩ = some ((Value.string ⟨((y.url).rest).toArray⟩)) ∧ W.cell? ⟨sb, so + (L.length - 1) * 10 + 9, none⟩ = some (y.vh)) ((refine ⟨bw_, by first | omega | (simp; omega), by first | omega | (simp; omega), by first | omega | (simp; omega), by first | omega | (simp; omega), by exact Blk.cell (t := 54) (bk_), by exact Blk.cell (t := 58) (bk_), by exact Blk.cell (t := 58) (bk_), q0 _ (bw_), q1 _ (bw_), q2 _ (bw_), q3 _ (bw_), q4 _ (bw_), q5 _ (bw_), q6 _ (bw_), q7 _ (bw_), q8 _ (bw_), q9 _ (bw_)⟩)) (first | (go_at_call 29; refine (how.out _).mono ?_; rintro e w1 ⟨rfl, hb⟩; obtain ⟨hc, hfz⟩ := bcell hb; have hz := hb.size; (try simp at hz); (try have hz0 := lt_ hb w.heap.size); (try have hz1 := lt_ hb (w.heap.size + 1)); (try have hz2 := lt_ hb (w.heap.size + 2)); (try have hz3 := lt_ hb (w.heap.size + 3)); (try have hcA := fun o => hc w.heap.size o sz_); (try have hcB := fun o => hc (w.heap.size + 1) o sz_)))
    all_goals go_wp2_with fail
    all_goals go_meet
    all_goals exact ⟨rfl, bw_, bk_, bk_, bk_, by first | omega | (simp; omega) | (simp; done)⟩
  case rest =>
  clear hw0 hwz hRl hRc hRf hZl hZc hZf hPl hPc hPf hBR hBZ hBP hzP
  obtain ⟨rfl, hw0, hBR, hBZ, hBP, hzP⟩ := hcut
  have hwz := hw0.size
  have hRl := hBR.lt
  have hRc := hBR.cell
  have hRf := hBR.frozen
  have hZl := hBZ.lt
  have hZc := hBZ.cell
  have hZf := hBZ.frozen
  have hPl := hBP.lt
  have hPc := hBP.cell
  have hPf := hBP.frozen
  clear hsB1 q0 q1 q2 q3 q4 q5 q6 q7 q8 q9
  obtain ⟨r, hr⟩ : ∃ r, Gl.gotOf 1 c cp o L = r := ⟨_, rfl⟩
  have hG2 : Hid (G = (r, 0)) := Lib.hid (by rw [← hr]; rw [← hG.out, if_neg (fun h => absurd h.1 (by decide))])
  clear hG
  unfold Gl.gotOf at hr
  simp only at hr
  rw [hnu.out, hot.out, hww.out] at hr
  obtain ⟨cq, hcq⟩ : ∃ b, (c == 2) = b := ⟨_, rfl⟩
  obtain ⟨cs, hcs⟩ : ∃ b, (c == 1) = b := ⟨_, rfl⟩
  obtain ⟨pq, hpq⟩ : ∃ b, (cp == 1) = b := ⟨_, rfl⟩
  rw [hcq, hcs, hpq] at hr
  obtain ⟨rt, rc, rn⟩ := r
  rw [Gl.Got.mk.injEq] at hr
  obtain ⟨hrt, hrc, hrn⟩ := hr
  obtain rfl := hrn
  obtain rfl : (1 : Int) = rt := by rw [← hrt] <;> rfl
  obtain rfl : true = rc := by rw [← hrc]; simp
  clear hrt hrc
  go_wp2_with fail
  refine bodyPost_ret (v := .tuple #[.agg #[.int .i64 1, .bool true, .bool nu], .int .i64 0]) (by simp only [results, Tryz.results28]; go_simp) rfl ⟨by rw [hG2.out] <;> rfl, bw_⟩
end Go.Proofs.YtbafofldgkigmaaGreatDoor
