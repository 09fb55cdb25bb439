/- taint.Walk: what comes of a request. -/
import Derived.Test.YtbafofldgkigmaaGreatDoorSteps13
import Derived.Test.YtbafofldgkigmaaGreatDoorFourB
import Derived.Test.YtbafofldgkigmaaGreatDoorTwo
namespace Go.Proofs.YtbafofldgkigmaaGreatDoor
open Go.RowKit
attribute [local irreducible] Calls
attribute [local go_sem] Oper.semAt_some
theorem others_below {W V : World} (h : Below W.heap.size W V) : KeepsOthers W V := ⟨h.size, fun k _ e _ => (h.block k (Array.getElem?_eq_some_iff.1 e).1).trans e⟩
theorem VX.of_below {n0 lb : Nat} {W V : World} (h : Below W.heap.size W V) (hn : n0 ≤ W.heap.size) : VX n0 lb W V := (VX.refl n0 lb W).below h hn
theorem VX.last {n0 lb : Nat} {W V : World} (h : VX n0 lb W V) (hn : n0 ≤ lb) (i : Nat) (v : Value) : VX n0 lb W (V.setCell ⟨lb, i, none⟩ v) :=
  ⟨h.1.setCell hn _, fun k hk c t f e => (Below.heap_setCell _ _ _ _ hk).trans (h.2 k hk c t f e)⟩
theorem dk_ {p : Prop} (h : p := by repeat' first | (with_reducible assumption) | (refine (Below.heap_setCell _ _ _ _ (sz_)).trans ?_) | (refine (Below.heap_alloc _ _ _ (sz_)).trans ?_)) : p := h
def WI (w : World) (m c cp : Int) (o : Gl.Origin) (L : List Gl.Hop) (nX gA gB : Nat) (pre : List (HopI L)) (W : World) : Prop :=
  (∀ x ∈ pre, ¬ (m = 3 ∧ Gl.badK c o L x.1 = true)) ∧ nX ≤ W.heap.size ∧ Below w.heap.size w W ∧ Blk W w.heap.size 54 #[.int .i64 m, .int .i64 c, (Value.bool (o).opaq), (Value.int .i64 (o).id), (Value.string ⟨((o).scheme).toArray⟩), (Value.string ⟨(((o).host).name).toArray⟩), (Value.bool ((o).host).v4), (Value.int .u32 (((o).host).addr : Int)), (Value.int .i64 (o).port), .int .i64 cp] ∧ Blk W (w.heap.size + 1) 58 #[(.int .i64 0), (.bool false), (.bool false)] ∧ Blk W (w.heap.size + 2) 45 #[.int .i64 0] ∧ Blk W gA 58 #[(.int .i64 1), (.bool false), (.bool false)] ∧
    ∃ vh ow fo nu, Blk W gB 116 #[vh, .bool ow, .bool fo, .bool nu] ∧ ∀ q, pre.getLast? = some q → ow = Gl.ownH o (uAt L q.1) ∧ fo = Gl.foreignK o L (q.1 + 1) ∧ nu = Gl.nullK o L (q.1 + 1)
def WX (w : World) (m c : Int) (o : Gl.Origin) (L : List Gl.Hop) (cd : Code) (_ : List (HopI L)) (W : World) : Prop :=
  cd = .ret ∧ (∃ k, k < L.length ∧ m = 3 ∧ Gl.badK c o L k = true) ∧ Below w.heap.size w W ∧ Blk W (w.heap.size + 1) 58 #[(.int .i64 0), (.bool false), (.bool false)] ∧ Blk W (w.heap.size + 2) 45 #[.int .i64 131]
def WA (w : World) (m c cp : Int) (o : Gl.Origin) (L : List Gl.Hop) (nX gA gB : Nat) (T : Array Value) (pre : List (HopI L)) (x : HopI L) (a' : Act) (W : World) : Prop :=
  ∃ g, a' = { tmps := (T.setIfInBounds 62 (.agg #[(hopAt L x.1).vh, .bool (Gl.ownH o (uAt L x.1)), .bool (Gl.foreignK o L (x.1 + 1)), .bool (Gl.nullK o L (x.1 + 1))])).setIfInBounds 10 (.pointer (some ⟨g, 0, none⟩)), defers := [] } ∧ nX ≤ g ∧ Blk W g 116 #[(hopAt L x.1).vh, .bool (Gl.ownH o (uAt L x.1)), .bool (Gl.foreignK o L (x.1 + 1)), .bool (Gl.nullK o L (x.1 + 1))] ∧ WI w m c cp o L nX gA gB pre W
theorem WI.below {w : World} {m c cp : Int} {o : Gl.Origin} {L : List Gl.Hop} {nX gA gB : Nat} (h0 : w.heap.size + 2 < nX) (hA : gA < nX) (hB : gB < nX) : BelowOk nX (WI w m c cp o L nX gA gB) := by
  rintro pre A B ⟨h1, h2, h3, h4, h5, h6, h7, vh, ow, fo, nu, h8, h9⟩ hb
  exact ⟨h1, Nat.le_trans h2 hb.size, h3.trans (hb.mono (by omega)), h4.below hb (by omega), h5.below hb (by omega), h6.below hb h0, h7.below hb hA, vh, ow, fo, nu, h8.below hb hB, h9⟩
theorem WX.below {w : World} {m c : Int} {o : Gl.Origin} {L : List Gl.Hop} {nX : Nat} (h0 : w.heap.size + 2 < nX) (cd : Code) : BelowOk nX (WX w m c o L cd) := by
  rintro pre A B ⟨h1, h2, h3, h4, h5⟩ hb
  exact ⟨h1, h2, h3.trans (hb.mono (by omega)), h4.below hb (by omega), h5.below hb h0⟩
theorem below_put {n0 : Nat} {W : World} {l : Nat} {o : Obj} (o' : Obj) (hl : n0 ≤ l) (ho : W.heap[l]? = some o) : Below n0 W (W.putObj l o') :=
  (Below.refl n0 W).grown (grownBy_putObj' W l o') (by have := (Array.getElem?_eq_some_iff.1 ho).1; omega) (fun k e => by cases e; omega)
/-- The function's end behind the range: its mark is taken up. -/
theorem walk_fin {w W : World} {D : Nat} {a e : Int} {b d : Bool} {R : Value} (hD : w.heap.size ≤ D) (hK : W.heap[D]? = some (.deferred (some [])))
    (b1 : Blk W (w.heap.size + 1) 58 #[.int .i64 a, .bool b, .bool d]) (b2 : Blk W (w.heap.size + 2) 45 #[.int .i64 e]) (hb : Below w.heap.size w W)
    (tmps : Array Value) (h2 : tmps[4]? = some (.pointer (some ⟨w.heap.size + 1, 0, none⟩))) (h3 : tmps[5]? = some (.pointer (some ⟨w.heap.size + 2, 0, none⟩)))
    (hR : R = .tuple #[.agg #[.int .i64 a, .bool b, .bool d], .int .i64 e]) :
    LeavesInM Fence.wide 20 Tryz.prog Tryz.f27 tmps (Ret w R) [{ target := .collected D, args := #[] }] .returning W := by
  refine ⟨by simp, .inl ⟨_, _, rfl, run_takeDeferred hK, ?_⟩⟩
  have c1 := (b1.put hK rfl (.deferred none)).cell
  have c2 := (b2.put hK rfl (.deferred none)).cell
  refine ⟨.tuple #[.agg #[.int .i64 a, .bool b, .bool d], .int .i64 e], ?_, by rw [hR], belowD hb hD hK⟩
  simp only [results, Tryz.results27]
  go_simp
theorem walk_round {w W V : World} {m c cp : Int} {o : Gl.Origin} {L : List Gl.Hop} {nX gA gB : Nat} {pre : List (HopI L)} (hb : Below W.heap.size W V) (hI : WI w m c cp o L nX gA gB pre W) (h2 : w.heap.size + 2 < gB) (hA : gA < gB) (hB : gB < nX) {k : Nat} (hk : k < L.length) (hnb : ¬ (m = 3 ∧ Gl.badK c o L k = true)) (vx : Value) {Q F N : Bool}
    (hQ : Gl.ownH o (uAt L k) = Q) (hF : Gl.foreignK o L (k + 1) = F) (hN : Gl.nullK o L (k + 1) = N) :
    KeepsOthers W ((((V.setCell ⟨gB, 0, none⟩ vx).setCell ⟨gB, 1, none⟩ (.bool Q)).setCell ⟨gB, 2, none⟩ (.bool F)).setCell ⟨gB, 3, none⟩ (.bool N)) ∧ VX w.heap.size gB W ((((V.setCell ⟨gB, 0, none⟩ vx).setCell ⟨gB, 1, none⟩ (.bool Q)).setCell ⟨gB, 2, none⟩ (.bool F)).setCell ⟨gB, 3, none⟩ (.bool N)) ∧ WI w m c cp o L nX gA gB (pre ++ [⟨k, hk⟩]) ((((V.setCell ⟨gB, 0, none⟩ vx).setCell ⟨gB, 1, none⟩ (.bool Q)).setCell ⟨gB, 2, none⟩ (.bool F)).setCell ⟨gB, 3, none⟩ (.bool N)) := by
  obtain ⟨h3, h4, h5, h6, h7, h8, h9, vh, ow, fo, nu, h10, h11⟩ := hI
  have hz := hb.size
  refine ⟨((((others_below hb).trans (KeepsOthers.setCell _ _ _)).trans (KeepsOthers.setCell _ _ _)).trans (KeepsOthers.setCell _ _ _)).trans (KeepsOthers.setCell _ _ _), ((((VX.of_below hb (by omega)).last (by omega) _ _).last (by omega) _ _).last (by omega) _ _).last (by omega) _ _, ?_⟩
  refine ⟨fun x hx => ?_, by simpa using Nat.le_trans h4 hz, ?_, ?_, ?_, ?_, ?_, vx, Q, F, N, ?_, fun q hq => ?_⟩
  · rw [List.mem_append, List.mem_singleton] at hx
    rcases hx with hx | rfl
    · exact h3 x hx
    · exact hnb
  · have h12 := h5.trans (hb.mono (by omega))
    exact (((h12.setCell (by show _ ≤ gB; omega) _).setCell (by show _ ≤ gB; omega) _).setCell (by show _ ≤ gB; omega) _).setCell (by show _ ≤ gB; omega) _
  · exact ((((h6.below hb h6.lt).far (by show _ ≠ gB; omega) _).far (by show _ ≠ gB; omega) _).far (by show _ ≠ gB; omega) _).far (by show _ ≠ gB; omega) _
  · exact ((((h7.below hb h7.lt).far (by show _ ≠ gB; omega) _).far (by show _ ≠ gB; omega) _).far (by show _ ≠ gB; omega) _).far (by show _ ≠ gB; omega) _
  · exact ((((h8.below hb h8.lt).far (by show _ ≠ gB; omega) _).far (by show _ ≠ gB; omega) _).far (by show _ ≠ gB; omega) _).far (by show _ ≠ gB; omega) _
  · exact ((((h9.below hb h9.lt).far (by show _ ≠ gB; omega) _).far (by show _ ≠ gB; omega) _).far (by show _ ≠ gB; omega) _).far (by show _ ≠ gB; omega) _
  · exact ((((h10.below hb h10.lt).set_ 0 vx).set_ 1 (.bool Q)).set_ 2 (.bool F)).set_ 3 (.bool N)
  · rw [List.getLast?_append, List.getLast?_singleton, Option.some_or] at hq
    cases hq
    exact ⟨hQ.symm, hF.symm, hN.symm⟩
theorem walk_stop {w W V : World} {c cp : Int} {o : Gl.Origin} {L : List Gl.Hop} {nX gA gB : Nat} {pre xs : List (HopI L)} (hb : Below W.heap.size W V) (hI : WI w 3 c cp o L nX gA gB pre W) (hX : w.heap.size + 2 < nX) {k : Nat} (hk : k < L.length) (hbk : Gl.badK c o L k = true) :
    KeepsOthers W ((((V.setCell ⟨w.heap.size + 1, 0, none⟩ (.int .i64 0)).setCell ⟨w.heap.size + 1, 1, none⟩ (.bool false)).setCell ⟨w.heap.size + 1, 2, none⟩ (.bool false)).setCell ⟨w.heap.size + 1 + 1, 0, none⟩ (.int .i64 131)) ∧ WX w 3 c o L .ret xs ((((V.setCell ⟨w.heap.size + 1, 0, none⟩ (.int .i64 0)).setCell ⟨w.heap.size + 1, 1, none⟩ (.bool false)).setCell ⟨w.heap.size + 1, 2, none⟩ (.bool false)).setCell ⟨w.heap.size + 1 + 1, 0, none⟩ (.int .i64 131)) := by
  obtain ⟨h3, h4, h5, h6, h7, h8, h9, vh, ow, fo, nu, h10, h11⟩ := hI
  refine ⟨((((others_below hb).trans (KeepsOthers.setCell _ _ _)).trans (KeepsOthers.setCell _ _ _)).trans (KeepsOthers.setCell _ _ _)).trans (KeepsOthers.setCell _ _ _), rfl, ⟨k, hk, rfl, hbk⟩, ?_, ?_, ?_⟩
  · have h12 := h5.trans (hb.mono (by omega))
    exact (((h12.setCell (by show _ ≤ w.heap.size + 1; omega) _).setCell (by show _ ≤ w.heap.size + 1; omega) _).setCell (by show _ ≤ w.heap.size + 1; omega) _).setCell (by show _ ≤ w.heap.size + 1 + 1; omega) _
  · exact ((((h7.below hb h7.lt).set_ 0 (.int .i64 0)).set_ 1 (.bool false)).set_ 2 (.bool false)).far (by show _ ≠ w.heap.size + 1 + 1; omega) _
  · exact (((((h8.below hb h8.lt).far (by show _ ≠ w.heap.size + 1; omega) _).far (by show _ ≠ w.heap.size + 1; omega) _).far (by show _ ≠ w.heap.size + 1; omega) _).set_ 0 (.int .i64 131))
theorem walk_fin0 {w W : World} {a e : Int} {b d : Bool} {R : Value}
    (b1 : Blk W (w.heap.size + 1) 58 #[.int .i64 a, .bool b, .bool d]) (b2 : Blk W (w.heap.size + 2) 45 #[.int .i64 e]) (hb : Below w.heap.size w W)
    (tmps : Array Value) (h2 : tmps[4]? = some (.pointer (some ⟨w.heap.size + 1, 0, none⟩))) (h3 : tmps[5]? = some (.pointer (some ⟨w.heap.size + 2, 0, none⟩)))
    (hR : R = .tuple #[.agg #[.int .i64 a, .bool b, .bool d], .int .i64 e]) :
    LeavesInM Fence.wide 20 Tryz.prog Tryz.f27 tmps (Ret w R) [] .returning W := by
  have c1 := b1.cell
  have c2 := b2.cell
  refine ⟨.tuple #[.agg #[.int .i64 a, .bool b, .bool d], .int .i64 e], ?_, by rw [hR], hb⟩
  simp only [results, Tryz.results27]
  go_simp
set_option maxRecDepth 100000 in
set_option maxHeartbeats 40000000 in
theorem taint_walk (m c cp : Int) (o : Gl.Origin) (v : Value) (L : List Gl.Hop) (w : World) (hE : Env w) (ho : OWide o) (hv : Hops w v L) (hf : ∀ h ∈ L, (∀ x ∈ h.head, HeadFit x) ∧ h.head.length ≤ 1000000 ∧ h.url.rest.length ≤ 3000) (hLl : L.length ≤ 1000000) :
    Calls Tryz.prog 27 #[.agg #[.int .i64 m, .int .i64 c, (Value.bool (o).opaq), (Value.int .i64 (o).id), (Value.string ⟨((o).scheme).toArray⟩), (Value.string ⟨(((o).host).name).toArray⟩), (Value.bool ((o).host).v4), (Value.int .u32 (((o).host).addr : Int)), (Value.int .i64 (o).port), .int .i64 cp], v] w (Ret w (.tuple #[gotV (Gl.walk m c cp o L).1, .int .i64 (Gl.walk m c cp o L).2])) := by
  have hfr : ∀ h ∈ L, h.url.rest.length ≤ 3000 := fun h hh => (hf h hh).2.2
  have H := Lib.hid hv
  obtain ⟨A, cc, rfl⟩ := hv.form
  obtain ⟨G, hG⟩ : ∃ G, Gl.walk m c cp o L = G := ⟨_, rfl⟩
  rw [hG]
  unfold Gl.walk at hG
  by_cases hm : m < 1 ∨ 3 < m
  · have hf1 : Hid (G = ({}, 1)) := Lib.hid (by rw [← hG, if_pos hm])
    clear hG hv hf ho hE H
    rcases hm with hm | hm
    · skip
      go_enter Tryz.func27, Tryz.ntmps27
      go_wp2_with fail
      refine bodyPost_ret (v := .tuple #[.agg #[(.int .i64 0), (.bool false), (.bool false)], .int .i64 1]) (by simp only [results, Tryz.results27]; go_simp) rfl ⟨by rw [hf1.out] <;> rfl, ?_⟩
      (exact bw_)
    · skip
      go_enter Tryz.func27, Tryz.ntmps27
      go_wp2_with fail
      refine bodyPost_ret (v := .tuple #[.agg #[(.int .i64 0), (.bool false), (.bool false)], .int .i64 1]) (by simp only [results, Tryz.results27]; go_simp) rfl ⟨by rw [hf1.out] <;> rfl, ?_⟩
      (exact bw_)
  rw [if_neg hm] at hG
  have hm1 : 1 ≤ m := by omega
  have hm3 : m ≤ 3 := by omega
  clear hm
  by_cases hl0 : L.length < 1
  · have hM : Gl.mayH L = false := by unfold Gl.mayH; rw [decide_eq_false (by omega : ¬ 1 ≤ L.length)]; rfl
    have hf1 : Hid (G = ({}, 130)) := Lib.hid (by rw [← hG, if_pos hM])
    clear hG hv hf ho hE H hM
    go_enter Tryz.func27, Tryz.ntmps27
    go_wp2_with fail
    refine bodyPost_ret (v := .tuple #[.agg #[(.int .i64 0), (.bool false), (.bool false)], .int .i64 130]) (by simp only [results, Tryz.results27]; go_simp) rfl ⟨by rw [hf1.out] <;> rfl, ?_⟩
    (exact bw_)
  by_cases hl22 : 21 < L.length
  · have hM : Gl.mayH L = false := by unfold Gl.mayH; rw [decide_eq_false (by omega : ¬ L.length ≤ 21), Bool.and_false]; rfl
    have hf1 : Hid (G = ({}, 130)) := Lib.hid (by rw [← hG, if_pos hM])
    clear hG hv hf ho hE H hM
    go_enter Tryz.func27, Tryz.ntmps27
    go_wp2_with fail
    refine bodyPost_ret (v := .tuple #[.agg #[(.int .i64 0), (.bool false), (.bool false)], .int .i64 130]) (by simp only [results, Tryz.results27]; go_simp) rfl ⟨by rw [hf1.out] <;> rfl, ?_⟩
    (exact bw_)
  have hl1 : 1 ≤ L.length := by omega
  have hl21 : L.length ≤ 21 := by omega
  clear hl0 hl22
  have h00 : 0 < L.length := hl1
  have hM : Gl.mayH L = (decide (L.length = 1) || L.all (fun h => Gl.isNet h.url)) := by unfold Gl.mayH; rw [decide_eq_true hl1, decide_eq_true hl21]; rfl
  have hnt0 := fun W => urlp_net (uAt L 0) W
  obtain ⟨sb, so, sd, he, hsB, hcell⟩ := H.out.cells 0 h00
  injection he with he1 he2 he3
  subst he1 he3
  have q0 := fun (W : World) (hW : Below w.heap.size w W) => (hW.cell (p := ⟨sb, so + 0 * 10 + 0, none⟩) hsB).trans (hcell 0 (by decide))
  have q1 := fun (W : World) (hW : Below w.heap.size w W) => (hW.cell (p := ⟨sb, so + 0 * 10 + 1, none⟩) hsB).trans (hcell 1 (by decide))
  have q2 := fun (W : World) (hW : Below w.heap.size w W) => (hW.cell (p := ⟨sb, so + 0 * 10 + 2, none⟩) hsB).trans (hcell 2 (by decide))
  have q3 := fun (W : World) (hW : Below w.heap.size w W) => (hW.cell (p := ⟨sb, so + 0 * 10 + 3, none⟩) hsB).trans (hcell 3 (by decide))
  have q4 := fun (W : World) (hW : Below w.heap.size w W) => (hW.cell (p := ⟨sb, so + 0 * 10 + 4, none⟩) hsB).trans (hcell 4 (by decide))
  have q5 := fun (W : World) (hW : Below w.heap.size w W) => (hW.cell (p := ⟨sb, so + 0 * 10 + 5, none⟩) hsB).trans (hcell 5 (by decide))
  have q6 := fun (W : World) (hW : Below w.heap.size w W) => (hW.cell (p := ⟨sb, so + 0 * 10 + 6, none⟩) hsB).trans (hcell 6 (by decide))
  have q7 := fun (W : World) (hW : Below w.heap.size w W) => (hW.cell (p := ⟨sb, so + 0 * 10 + 7, none⟩) hsB).trans (hcell 7 (by decide))
  have q8 := fun (W : World) (hW : Below w.heap.size w W) => (hW.cell (p := ⟨sb, so + 0 * 10 + 8, none⟩) hsB).trans (hcell 8 (by decide))
  have q9 := fun (W : World) (hW : Below w.heap.size w W) => (hW.cell (p := ⟨sb, so + 0 * 10 + 9, none⟩) hsB).trans (hcell 9 (by decide))
  rw [← hopAt_lt h00] at q0 q1 q2 q3 q4 q5 q6 q7 q8 q9
  simp only [hopcells, Nat.zero_mul, Nat.add_zero, List.getElem?_toArray, List.getElem?_cons_zero, List.getElem?_cons_succ] at q0 q1 q2 q3 q4 q5 q6 q7 q8 q9
  clear hcell
  have hu0 : uAt L 0 = (hopAt L 0).url := rfl
  have hux : (hopAt L 0).url = L[0].url := by rw [hopAt_lt h00]
  by_cases hn1 : L.length = 1 ∧ Gl.isNet (uAt L 0) = false
  · obtain ⟨hn1, hn2⟩ := hn1
    have hf1 : Hid (G = ({ taint := 1 }, 0)) := Lib.hid (by rw [← hG, if_neg (by rw [hM, decide_eq_true hn1]; simp), if_pos hn2])
    rw [hn2, hu0] at hnt0
    have hl1a : L.length ≤ 1 := by omega
    replace hnt0 := Lib.hid hnt0
    clear hG hv hf ho hE H hM hn1 hn2 hu0 hux
    generalize hopAt L 0 = x at *
    go_enter Tryz.func27, Tryz.ntmps27
    go_upto_region 1 with fail
    generalize hW0 : (((w.alloc (Obj.cells #[.int .i64 m, .int .i64 c, (Value.bool (o).opaq), (Value.int .i64 (o).id), (Value.string ⟨((o).scheme).toArray⟩), (Value.string ⟨(((o).host).name).toArray⟩), (Value.bool ((o).host).v4), (Value.int .u32 (((o).host).addr : Int)), (Value.int .i64 (o).port), .int .i64 cp] 54)).alloc (Obj.cells #[(.int .i64 0), (.bool false), (.bool false)] 58)).alloc (Obj.cells #[(.int .i64 0)] 45)) = W0
    have hw0 : Below w.heap.size w W0 := by rw [← hW0]; (exact bw_)
    have hBR : Blk W0 (w.heap.size) 54 #[.int .i64 m, .int .i64 c, (Value.bool (o).opaq), (Value.int .i64 (o).id), (Value.string ⟨((o).scheme).toArray⟩), (Value.string ⟨(((o).host).name).toArray⟩), (Value.bool ((o).host).v4), (Value.int .u32 (((o).host).addr : Int)), (Value.int .i64 (o).port), .int .i64 cp] := by rw [← hW0]; exact (Blk.alloc (Blk.alloc (Blk.new _ _ _) _) _)
    have hBZ : Blk W0 (w.heap.size + 1) 58 #[(.int .i64 0), (.bool false), (.bool false)] := by rw [← hW0]; exact (Blk.alloc (by have := Blk.new (w.alloc (Obj.cells #[.int .i64 m, .int .i64 c, (Value.bool (o).opaq), (Value.int .i64 (o).id), (Value.string ⟨((o).scheme).toArray⟩), (Value.string ⟨(((o).host).name).toArray⟩), (Value.bool ((o).host).v4), (Value.int .u32 (((o).host).addr : Int)), (Value.int .i64 (o).port), .int .i64 cp] 54)) 58 #[(.int .i64 0), (.bool false), (.bool false)]; simpa [World.size_alloc] using this) _)
    have hBE : Blk W0 (w.heap.size + 2) 45 #[(.int .i64 0)] := by rw [← hW0]; exact (by have := Blk.new ((w.alloc (Obj.cells #[.int .i64 m, .int .i64 c, (Value.bool (o).opaq), (Value.int .i64 (o).id), (Value.string ⟨((o).scheme).toArray⟩), (Value.string ⟨(((o).host).name).toArray⟩), (Value.bool ((o).host).v4), (Value.int .u32 (((o).host).addr : Int)), (Value.int .i64 (o).port), .int .i64 cp] 54)).alloc (Obj.cells #[(.int .i64 0), (.bool false), (.bool false)] 58)) 45 #[(.int .i64 0)]; simpa [World.size_alloc] using this)
    clear hW0
    have hwz := hw0.size
    have hRl := hBR.lt
    have hRc := hBR.cell
    have hRf := hBR.frozen
    have hZl := hBZ.lt
    have hZc := hBZ.cell
    have hZf := hBZ.frozen
    have hEl := hBE.lt
    have hEc := hBE.cell
    have hEf := hBE.frozen
    have hsB1 : sb < W0.heap.size := by omega
    have x0 := q0 _ hw0
    have x1 := q1 _ hw0
    have x2 := q2 _ hw0
    have x3 := q3 _ hw0
    have x4 := q4 _ hw0
    have x5 := q5 _ hw0
    have x6 := q6 _ hw0
    have x7 := q7 _ hw0
    have x8 := q8 _ hw0
    go_wp2_with (go_at_call 20; refine (hnt0.out _).mono ?_; rintro e w1 ⟨rfl, hb⟩; obtain ⟨hc, hfz⟩ := bcell hb; have hz := hb.size; (try simp at hz); (try have hz0 := lt_ hb w.heap.size); (try have hz1 := lt_ hb (w.heap.size + 1)); (try have hz2 := lt_ hb (w.heap.size + 2)); (try have hz3 := lt_ hb (w.heap.size + 3)); (try have hcA := fun o => hc w.heap.size o sz_); (try have hcB := fun o => hc (w.heap.size + 1) o sz_); (try (have i := cf_ hb g; obtain ⟨hcGg, hfGg, hzGg⟩ := i)); (try (have i := cf_ hb gA; obtain ⟨hcGgA, hfGgA, hzGgA⟩ := i)); (try (have i := cf_ hb gB; obtain ⟨hcGgB, hfGgB, hzGgB⟩ := i)); (try (have i := cf_ hb gC; obtain ⟨hcGgC, hfGgC, hzGgC⟩ := i)))
    refine bodyPost_ret (v := .tuple #[.agg #[(.int .i64 1), (.bool false), (.bool false)], .int .i64 0]) (by simp only [results, Tryz.results27]; go_simp) rfl ⟨by rw [hf1.out] <;> rfl, ?_⟩
    (exact bw_)
  have hn0 : L.length = 1 → Gl.isNet (uAt L 0) = true := fun h => by
    cases e : Gl.isNet (uAt L 0)
    · exact absurd ⟨h, e⟩ hn1
    · rfl
  have hbadG : L.all (fun h => Gl.isNet h.url) = false → L.length ≠ 1 → G = ({}, 130) := fun h h2 => by rw [← hG, if_pos (by rw [hM, h, decide_eq_false h2]; rfl)]
  have hone : L.length = 1 → L.all (fun h => Gl.isNet h.url) = false → False := fun h h2 => by
    have h3 := hn0 h
    rw [hu0, hux] at h3
    rw [List.all_eq_false] at h2
    obtain ⟨z, hz, hz2⟩ := h2
    obtain ⟨i, hi, rfl⟩ := List.getElem_of_mem hz
    obtain rfl : i = 0 := by omega
    exact hz2 h3
  have hgood : L.all (fun h => Gl.isNet h.url) = true → G = if m = 3 ∧ Gl.anyBad c o L L.length = true then ({}, 131) else (Gl.gotOf m c cp o L, 0) := fun h => by
    have h2 := walk_net (m := m) (c := c) (cp := cp) (o := o) (by omega) hl1 hl21 h
    unfold Gl.walk at h2
    rw [if_neg (by omega)] at h2
    rw [← hG, h2]
  clear hG hM hn1
  have htx := fun W (hW : Below w.heap.size w W) => origin_text o W (hE.below hW) ho
  have hsh := fun W (hW : Below w.heap.size w W) k (hk : k < L.length) t i => taint_shared (hopAt L k).vh (hopAt L k).head t i W (by rw [hopAt_lt hk]; exact (hv.2 _ (List.getElem_mem hk)).below hW) (by rw [hopAt_lt hk]; exact (hf _ (List.getElem_mem hk)).1) (by rw [hopAt_lt hk]; exact (hf _ (List.getElem_mem hk)).2.1)
  have hform : ∀ k, k < L.length → ∃ B d, (hopAt L k).vh = .slice B (hopAt L k).head.length d := fun k hk => by rw [hopAt_lt hk]; exact (hv.2 _ (List.getElem_mem hk)).form
  rw [hu0] at hnt0 hn0
  clear hu0 hux hv
  generalize hopAt L 0 = x0 at q0 q1 q2 q3 q4 q5 q6 q7 q8 q9 hnt0 hn0
  generalize Gl.isNet x0.url = net0 at *
  replace hnt0 := Lib.hid hnt0
  replace htx := Lib.hid htx
  replace hsh := Lib.hid hsh
  replace hform := Lib.hid hform
  replace hbadG := Lib.hid hbadG
  replace hone := Lib.hid hone
  replace hgood := Lib.hid hgood
  replace hn0 := Lib.hid hn0
  replace hf := Lib.hid hf
  replace hfr := Lib.hid hfr
  refine (callsIn_wide (n := 20)).1 ?_
  refine callsIn_of_wp_marks Tryz.func27 rfl trivial ?_ rfl
  simp only [Tryz.ntmps27, List.size_toArray, List.length_cons, List.length_nil, Nat.reduceAdd, Nat.reduceSub, Array.replicate_succ, Array.replicate_zero, List.push_toArray, List.append_toArray, List.nil_append, List.cons_append]
  gi_upto_region 1 with fail
  generalize hW0 : (((w.alloc (Obj.cells #[.int .i64 m, .int .i64 c, (Value.bool (o).opaq), (Value.int .i64 (o).id), (Value.string ⟨((o).scheme).toArray⟩), (Value.string ⟨(((o).host).name).toArray⟩), (Value.bool ((o).host).v4), (Value.int .u32 (((o).host).addr : Int)), (Value.int .i64 (o).port), .int .i64 cp] 54)).alloc (Obj.cells #[(.int .i64 0), (.bool false), (.bool false)] 58)).alloc (Obj.cells #[(.int .i64 0)] 45)) = W0
  have hw0 : Below w.heap.size w W0 := by rw [← hW0]; (exact bw_)
  have hBR : Blk W0 (w.heap.size) 54 #[.int .i64 m, .int .i64 c, (Value.bool (o).opaq), (Value.int .i64 (o).id), (Value.string ⟨((o).scheme).toArray⟩), (Value.string ⟨(((o).host).name).toArray⟩), (Value.bool ((o).host).v4), (Value.int .u32 (((o).host).addr : Int)), (Value.int .i64 (o).port), .int .i64 cp] := by rw [← hW0]; exact (Blk.alloc (Blk.alloc (Blk.new _ _ _) _) _)
  have hBZ : Blk W0 (w.heap.size + 1) 58 #[(.int .i64 0), (.bool false), (.bool false)] := by rw [← hW0]; exact (Blk.alloc (by have := Blk.new (w.alloc (Obj.cells #[.int .i64 m, .int .i64 c, (Value.bool (o).opaq), (Value.int .i64 (o).id), (Value.string ⟨((o).scheme).toArray⟩), (Value.string ⟨(((o).host).name).toArray⟩), (Value.bool ((o).host).v4), (Value.int .u32 (((o).host).addr : Int)), (Value.int .i64 (o).port), .int .i64 cp] 54)) 58 #[(.int .i64 0), (.bool false), (.bool false)]; simpa [World.size_alloc] using this) _)
  have hBE : Blk W0 (w.heap.size + 2) 45 #[(.int .i64 0)] := by rw [← hW0]; exact (by have := Blk.new ((w.alloc (Obj.cells #[.int .i64 m, .int .i64 c, (Value.bool (o).opaq), (Value.int .i64 (o).id), (Value.string ⟨((o).scheme).toArray⟩), (Value.string ⟨(((o).host).name).toArray⟩), (Value.bool ((o).host).v4), (Value.int .u32 (((o).host).addr : Int)), (Value.int .i64 (o).port), .int .i64 cp] 54)).alloc (Obj.cells #[(.int .i64 0), (.bool false), (.bool false)] 58)) 45 #[(.int .i64 0)]; simpa [World.size_alloc] using this)
  clear hW0
  have hwz := hw0.size
  have hRl := hBR.lt
  have hRc := hBR.cell
  have hRf := hBR.frozen
  have hZl := hBZ.lt
  have hZc := hBZ.cell
  have hZf := hBZ.frozen
  have hEl := hBE.lt
  have hEc := hBE.cell
  have hEf := hBE.frozen
  gi_upto_region 1 with fail
  gi_cut [6] from 13 (fun x6 w' => ∃ gA, x6 = .pointer (some ⟨gA, 0, none⟩) ∧ Below w.heap.size w w' ∧ Blk w' (w.heap.size) 54 #[.int .i64 m, .int .i64 c, (Value.bool (o).opaq), (Value.int .i64 (o).id), (Value.string ⟨((o).scheme).toArray⟩), (Value.string ⟨(((o).host).name).toArray⟩), (Value.bool ((o).host).v4), (Value.int .u32 (((o).host).addr : Int)), (Value.int .i64 (o).port), .int .i64 cp] ∧ Blk w' (w.heap.size + 1) 58 #[(.int .i64 0), (.bool false), (.bool false)] ∧ Blk w' (w.heap.size + 2) 45 #[(.int .i64 0)] ∧ Blk w' (gA) 58 #[(.int .i64 1), (.bool false), (.bool false)] ∧ w.heap.size + 3 ≤ gA)
  case first =>
    gi_wp2_with fail
    gi_meet
    case rel =>
      exact ⟨_, rfl, bw_, bk_, bk_, bk_, bk_, by first | omega | (simp; omega) | (simp; done)⟩
  case rest =>
  clear hw0 hwz hRl hRc hRf hZl hZc hZf hEl hEc hEf hBR hBZ hBE 
  obtain ⟨gA, rfl, hw0, hBR, hBZ, hBE, hBA, hzA⟩ := hcut
  have hwz := hw0.size
  have hRl := hBR.lt
  have hRc := hBR.cell
  have hRf := hBR.frozen
  have hZl := hBZ.lt
  have hZc := hBZ.cell
  have hZf := hBZ.frozen
  have hEl := hBE.lt
  have hEc := hBE.cell
  have hEf := hBE.frozen
  have hAl := hBA.lt
  have hAc := hBA.cell
  have hAf := hBA.frozen
  first | gi_step | go_step
  first | gi_step | go_step
  gi_cut [] from 13 (fun  w' => Below w.heap.size w w' ∧ Blk w' (w.heap.size) 54 #[.int .i64 m, .int .i64 c, (Value.bool (o).opaq), (Value.int .i64 (o).id), (Value.string ⟨((o).scheme).toArray⟩), (Value.string ⟨(((o).host).name).toArray⟩), (Value.bool ((o).host).v4), (Value.int .u32 (((o).host).addr : Int)), (Value.int .i64 (o).port), .int .i64 cp] ∧ Blk w' (w.heap.size + 1) 58 #[(.int .i64 0), (.bool false), (.bool false)] ∧ Blk w' (w.heap.size + 2) 45 #[(.int .i64 0)] ∧ Blk w' (gA) 58 #[(.int .i64 1), (.bool false), (.bool false)] ∧ w.heap.size + 3 ≤ gA)
  case first =>
    by_cases hl1a : L.length ≤ 1
    · have hn2 := hn0.out (by omega)
      subst hn2
      have x0 := q0 _ hw0
      have x1 := q1 _ hw0
      have x2 := q2 _ hw0
      have x3 := q3 _ hw0
      have x4 := q4 _ hw0
      have x5 := q5 _ hw0
      have x6 := q6 _ hw0
      have x7 := q7 _ hw0
      have x8 := q8 _ hw0
      have hsB1 : sb < wc.heap.size := by omega
      gi_wp2_with (refine ⟨trivial, ?_⟩; gi_at_call 20; refine (callsIn_wide.2 (hnt0.out _)).mono ?_; rintro e w1 ⟨rfl, hb⟩; obtain ⟨hc, hfz⟩ := bcell hb; have hz := hb.size; (try simp at hz); (try have hz0 := lt_ hb w.heap.size); (try have hz1 := lt_ hb (w.heap.size + 1)); (try have hz2 := lt_ hb (w.heap.size + 2)); (try have hz3 := lt_ hb (w.heap.size + 3)); (try have hcA := fun o => hc w.heap.size o sz_); (try have hcB := fun o => hc (w.heap.size + 1) o sz_); (try (have i := cf_ hb g; obtain ⟨hcGg, hfGg, hzGg⟩ := i)); (try (have i := cf_ hb gA; obtain ⟨hcGgA, hfGgA, hzGgA⟩ := i)); (try (have i := cf_ hb gB; obtain ⟨hcGgB, hfGgB, hzGgB⟩ := i)); (try (have i := cf_ hb gC; obtain ⟨hcGgC, hfGgC, hzGgC⟩ := i)))
      gi_meet
      case rel => exact ⟨bw_, bk_, bk_, bk_, bk_, by first | omega | (simp; omega) | (simp; done)⟩
    · gi_wp2_with (refine ⟨trivial, ?_⟩)
      gi_meet
      case rel => exact ⟨bw_, bk_, bk_, bk_, bk_, by first | omega | (simp; omega) | (simp; done)⟩
  case rest =>
  clear hw0 hwz hRl hRc hRf hZl hZc hZf hEl hEc hEf hAl hAc hAf hBR hBZ hBE hBA hzA
  obtain ⟨hw0, hBR, hBZ, hBE, hBA, hzA⟩ := hcut
  have hwz := hw0.size
  have hRl := hBR.lt
  have hRc := hBR.cell
  have hRf := hBR.frozen
  have hZl := hBZ.lt
  have hZc := hBZ.cell
  have hZf := hBZ.frozen
  have hEl := hBE.lt
  have hEc := hBE.cell
  have hEf := hBE.frozen
  have hAl := hBA.lt
  have hAc := hBA.cell
  have hAf := hBA.frozen
  clear hnt0 hn0 q0 q1 q2 q3 q4 q5 q6 q7 q8 q9
  gi_wp2_with fail
  gi_loopw [8, 49] (fun _ i wr => ∃ k : Nat, k ≤ L.length ∧ i = .int .i64 (k : Int) ∧ Hid ((L.drop k).all (fun h => Gl.isNet h.url) = L.all (fun h => Gl.isNet h.url)) ∧ Below w.heap.size w wr ∧ Blk wr (w.heap.size) 54 #[.int .i64 m, .int .i64 c, (Value.bool (o).opaq), (Value.int .i64 (o).id), (Value.string ⟨((o).scheme).toArray⟩), (Value.string ⟨(((o).host).name).toArray⟩), (Value.bool ((o).host).v4), (Value.int .u32 (((o).host).addr : Int)), (Value.int .i64 (o).port), .int .i64 cp] ∧ Blk wr (w.heap.size + 1) 58 #[(.int .i64 0), (.bool false), (.bool false)] ∧ Blk wr (w.heap.size + 2) 45 #[(.int .i64 0)] ∧ Blk wr (gA) 58 #[(.int .i64 1), (.bool false), (.bool false)]) (fun _ i _ => L.length - (intOf i).toNat)
  case atStart => exact ⟨0, Nat.zero_le _, rfl, Lib.hid rfl, bw_, bk_, bk_, bk_, bk_⟩
  case round =>
    clear hw0 hwz hRl hRc hRf hZl hZc hZf hEl hEc hEf hAl hAc hAf hBR hBZ hBE hBA
    obtain ⟨k, hk, rfl, hr, hw0, hBR, hBZ, hBE, hBA⟩ := hrel
    have hwz := hw0.size
    have hRl := hBR.lt
    have hRc := hBR.cell
    have hRf := hBR.frozen
    have hZl := hBZ.lt
    have hZc := hBZ.cell
    have hZf := hBZ.frozen
    have hEl := hBE.lt
    have hEc := hBE.cell
    have hEf := hBE.frozen
    have hAl := hBA.lt
    have hAc := hBA.cell
    have hAf := hBA.frozen
    by_cases hlt : k < L.length
    · skip
      obtain ⟨sb2, so2, sd2, he, hsB2, hcell⟩ := H.out.cells k hlt
      injection he with he1 he2 he3
      injection he1 with he4
      injection he4 with he5 he6
      subst he5 he6
      clear he2 he3 hsB2
      have q0 := fun (W : World) (hW : Below w.heap.size w W) => (hW.cell (p := ⟨sb, so + k * 10 + 0, none⟩) hsB).trans (hcell 0 (by decide))
      have q1 := fun (W : World) (hW : Below w.heap.size w W) => (hW.cell (p := ⟨sb, so + k * 10 + 1, none⟩) hsB).trans (hcell 1 (by decide))
      have q2 := fun (W : World) (hW : Below w.heap.size w W) => (hW.cell (p := ⟨sb, so + k * 10 + 2, none⟩) hsB).trans (hcell 2 (by decide))
      have q3 := fun (W : World) (hW : Below w.heap.size w W) => (hW.cell (p := ⟨sb, so + k * 10 + 3, none⟩) hsB).trans (hcell 3 (by decide))
      have q4 := fun (W : World) (hW : Below w.heap.size w W) => (hW.cell (p := ⟨sb, so + k * 10 + 4, none⟩) hsB).trans (hcell 4 (by decide))
      have q5 := fun (W : World) (hW : Below w.heap.size w W) => (hW.cell (p := ⟨sb, so + k * 10 + 5, none⟩) hsB).trans (hcell 5 (by decide))
      have q6 := fun (W : World) (hW : Below w.heap.size w W) => (hW.cell (p := ⟨sb, so + k * 10 + 6, none⟩) hsB).trans (hcell 6 (by decide))
      have q7 := fun (W : World) (hW : Below w.heap.size w W) => (hW.cell (p := ⟨sb, so + k * 10 + 7, none⟩) hsB).trans (hcell 7 (by decide))
      have q8 := fun (W : World) (hW : Below w.heap.size w W) => (hW.cell (p := ⟨sb, so + k * 10 + 8, none⟩) hsB).trans (hcell 8 (by decide))
      have q9 := fun (W : World) (hW : Below w.heap.size w W) => (hW.cell (p := ⟨sb, so + k * 10 + 9, none⟩) hsB).trans (hcell 9 (by decide))
      rw [← hopAt_lt hlt] at q0 q1 q2 q3 q4 q5 q6 q7 q8 q9
      simp only [hopcells, Nat.add_zero, List.getElem?_toArray, List.getElem?_cons_zero, List.getElem?_cons_succ] at q0 q1 q2 q3 q4 q5 q6 q7 q8 q9
      clear hcell
      have hnt := fun W => urlp_net (hopAt L k).url W
      have hr2 := hr.out
      have hfx := hform.out k hlt
      rw [drop_consX hlt, List.all_cons, ← hopAt_lt hlt] at hr2
      clear hr
      generalize hopAt L k = x at *
      obtain ⟨u, vx, hl⟩ := x
      obtain ⟨B3, d3, hfx⟩ := hfx
      simp only at hfx hr2 hnt q0 q1 q2 q3 q4 q5 q6 q7 q8 q9
      subst hfx
      generalize Gl.isNet u = q at *
      replace hnt := Lib.hid hnt
      have hsB1 : sb < wr.heap.size := by omega
      have x0 := q0 _ hw0
      have x1 := q1 _ hw0
      have x2 := q2 _ hw0
      have x3 := q3 _ hw0
      have x4 := q4 _ hw0
      have x5 := q5 _ hw0
      have x6 := q6 _ hw0
      have x7 := q7 _ hw0
      have x8 := q8 _ hw0
      have x9 := q9 _ hw0
      clear q0 q1 q2 q3 q4 q5 q6 q7 q8 q9
      cases q
      · have hr3 : L.all (fun h => Gl.isNet h.url) = false := by rw [← hr2]; rfl
        have hf1 := Lib.hid (hbadG.out hr3 (fun h => hone.out h hr3))
        clear hr2 hr3
        gi_wp2_with (refine ⟨trivial, ?_⟩; gi_at_call 20; refine (callsIn_wide.2 (hnt.out _)).mono ?_; rintro e w1 ⟨rfl, hb⟩; obtain ⟨hc, hfz⟩ := bcell hb; have hz := hb.size; (try simp at hz); (try have hz0 := lt_ hb w.heap.size); (try have hz1 := lt_ hb (w.heap.size + 1)); (try have hz2 := lt_ hb (w.heap.size + 2)); (try have hz3 := lt_ hb (w.heap.size + 3)); (try have hcA := fun o => hc w.heap.size o sz_); (try have hcB := fun o => hc (w.heap.size + 1) o sz_); (try (have i := cf_ hb g; obtain ⟨hcGg, hfGg, hzGg⟩ := i)); (try (have i := cf_ hb gA; obtain ⟨hcGgA, hfGgA, hzGgA⟩ := i)); (try (have i := cf_ hb gB; obtain ⟨hcGgB, hfGgB, hzGgB⟩ := i)); (try (have i := cf_ hb gC; obtain ⟨hcGgC, hfGgC, hzGgC⟩ := i)))
        refine walk_fin0 (a := 0) (b := false) (d := false) (e := 130) ?_ ?_ (bw_) _ rfl rfl (by rw [hf1.out] <;> rfl)
        · refine Blk.far ?_ (by show w.heap.size + 1 ≠ w.heap.size + 1 + 1; omega) _
          exact ((Blk.set_ (t := 58) (cs := #[(.int .i64 0), (.bool false), (.bool false)]) (by exact bks_) 0 (.int .i64 0)).set_ 1 (.bool false)).set_ 2 (.bool false)
        · exact Blk.set_ (cs := #[.int .i64 0]) (by exact bks_) 0 (.int .i64 130)
      · replace hr2 := Lib.hid hr2
        gi_wp2_with (refine ⟨trivial, ?_⟩; gi_at_call 20; refine (callsIn_wide.2 (hnt.out _)).mono ?_; rintro e w1 ⟨rfl, hb⟩; obtain ⟨hc, hfz⟩ := bcell hb; have hz := hb.size; (try simp at hz); (try have hz0 := lt_ hb w.heap.size); (try have hz1 := lt_ hb (w.heap.size + 1)); (try have hz2 := lt_ hb (w.heap.size + 2)); (try have hz3 := lt_ hb (w.heap.size + 3)); (try have hcA := fun o => hc w.heap.size o sz_); (try have hcB := fun o => hc (w.heap.size + 1) o sz_); (try (have i := cf_ hb g; obtain ⟨hcGg, hfGg, hzGg⟩ := i)); (try (have i := cf_ hb gA; obtain ⟨hcGgA, hfGgA, hzGgA⟩ := i)); (try (have i := cf_ hb gB; obtain ⟨hcGgB, hfGgB, hzGgB⟩ := i)); (try (have i := cf_ hb gC; obtain ⟨hcGgC, hfGgC, hzGgC⟩ := i)))
        go_roundw
        case rel => exact ⟨k + 1, by omega, by go_num, Lib.hid hr2.out, bw_, bk_, bk_, bk_, bk_⟩
        case measure => simp [intOf]; omega
    · have hall : L.all (fun h => Gl.isNet h.url) = true := by rw [← hr.out, List.drop_eq_nil_of_le (by omega)]; rfl
      have hgood2 := Lib.hid (hgood.out hall)
      clear hr hall hgood hbadG hone
      gi_upto_region 14 with fail
      gi_cut [9] from 13 (fun x9 w' => ∃ gB, x9 = .pointer (some ⟨gB, 0, none⟩) ∧ Below w.heap.size w w' ∧ Blk w' (w.heap.size) 54 #[.int .i64 m, .int .i64 c, (Value.bool (o).opaq), (Value.int .i64 (o).id), (Value.string ⟨((o).scheme).toArray⟩), (Value.string ⟨(((o).host).name).toArray⟩), (Value.bool ((o).host).v4), (Value.int .u32 (((o).host).addr : Int)), (Value.int .i64 (o).port), .int .i64 cp] ∧ Blk w' (w.heap.size + 1) 58 #[(.int .i64 0), (.bool false), (.bool false)] ∧ Blk w' (w.heap.size + 2) 45 #[(.int .i64 0)] ∧ Blk w' (gA) 58 #[(.int .i64 1), (.bool false), (.bool false)] ∧ Blk w' (gB) 116 #[(.slice none 0 0), (.bool false), (.bool false), (.bool false)] ∧ w.heap.size + 3 ≤ gA ∧ gA < gB)
      case first =>
        gi_wp2_with fail
        gi_meet
        case rel =>
          exact ⟨_, rfl, bw_, bk_, bk_, bk_, bk_, bk_, by first | omega | (simp; omega) | (simp; done), by first | omega | (simp; omega) | (simp; done)⟩
      case rest =>
      clear hw0 hwz hRl hRc hRf hZl hZc hZf hEl hEc hEf hAl hAc hAf hBR hBZ hBE hBA hzA
      obtain ⟨gB, rfl, hw0, hBR, hBZ, hBE, hBA, hBB, hzA, hzB⟩ := hcut
      have hwz := hw0.size
      have hRl := hBR.lt
      have hRc := hBR.cell
      have hRf := hBR.frozen
      have hZl := hBZ.lt
      have hZc := hBZ.cell
      have hZf := hBZ.frozen
      have hEl := hBE.lt
      have hEc := hBE.cell
      have hEf := hBE.frozen
      have hAl := hBA.lt
      have hAc := hBA.cell
      have hAf := hBA.frozen
      have hBl := hBB.lt
      have hBc := hBB.cell
      have hBf := hBB.frozen
      gi_wp2_with (refine ⟨trivial, ?_⟩; gi_at_call 62; refine (callsIn_wide.2 (taint_steps m c cp o _ _ _ _)).mono ?_; rintro e w2 ⟨rfl, rfl⟩)
      have hX1 : Blk ((wc.alloc (Obj.cells #[.int .i64 m, .int .i64 c, (Value.bool (o).opaq), (Value.int .i64 (o).id), (Value.string ⟨((o).scheme).toArray⟩), (Value.string ⟨(((o).host).name).toArray⟩), (Value.bool ((o).host).v4), (Value.int .u32 (((o).host).addr : Int)), (Value.int .i64 (o).port), .int .i64 cp] 54)).alloc (Obj.cells #[.slice (some ⟨sb, so, none⟩) L.length cc] 55)) (wc.heap.size + 1) 55 #[.slice (some ⟨sb, so, none⟩) L.length cc] := Blk.newI _ _ _ _
      have hX2 : Blk ((wc.alloc (Obj.cells #[.int .i64 m, .int .i64 c, (Value.bool (o).opaq), (Value.int .i64 (o).id), (Value.string ⟨((o).scheme).toArray⟩), (Value.string ⟨(((o).host).name).toArray⟩), (Value.bool ((o).host).v4), (Value.int .u32 (((o).host).addr : Int)), (Value.int .i64 (o).port), .int .i64 cp] 54)).alloc (Obj.cells #[.slice (some ⟨sb, so, none⟩) L.length cc] 55)) wc.heap.size 54 #[.int .i64 m, .int .i64 c, (Value.bool (o).opaq), (Value.int .i64 (o).id), (Value.string ⟨((o).scheme).toArray⟩), (Value.string ⟨(((o).host).name).toArray⟩), (Value.bool ((o).host).v4), (Value.int .u32 (((o).host).addr : Int)), (Value.int .i64 (o).port), .int .i64 cp] := (Blk.new _ _ _).alloc _
      have hXb : Below w.heap.size w ((wc.alloc (Obj.cells #[.int .i64 m, .int .i64 c, (Value.bool (o).opaq), (Value.int .i64 (o).id), (Value.string ⟨((o).scheme).toArray⟩), (Value.string ⟨(((o).host).name).toArray⟩), (Value.bool ((o).host).v4), (Value.int .u32 (((o).host).addr : Int)), (Value.int .i64 (o).port), .int .i64 cp] 54)).alloc (Obj.cells #[.slice (some ⟨sb, so, none⟩) L.length cc] 55)) := bw_
      have hXs : (((wc.alloc (Obj.cells #[.int .i64 m, .int .i64 c, (Value.bool (o).opaq), (Value.int .i64 (o).id), (Value.string ⟨((o).scheme).toArray⟩), (Value.string ⟨(((o).host).name).toArray⟩), (Value.bool ((o).host).v4), (Value.int .u32 (((o).host).addr : Int)), (Value.int .i64 (o).port), .int .i64 cp] 54)).alloc (Obj.cells #[.slice (some ⟨sb, so, none⟩) L.length cc] 55))).heap.size = wc.heap.size + 2 := by simp
      have hXR : Blk ((wc.alloc (Obj.cells #[.int .i64 m, .int .i64 c, (Value.bool (o).opaq), (Value.int .i64 (o).id), (Value.string ⟨((o).scheme).toArray⟩), (Value.string ⟨(((o).host).name).toArray⟩), (Value.bool ((o).host).v4), (Value.int .u32 (((o).host).addr : Int)), (Value.int .i64 (o).port), .int .i64 cp] 54)).alloc (Obj.cells #[.slice (some ⟨sb, so, none⟩) L.length cc] 55)) w.heap.size 54 #[.int .i64 m, .int .i64 c, (Value.bool (o).opaq), (Value.int .i64 (o).id), (Value.string ⟨((o).scheme).toArray⟩), (Value.string ⟨(((o).host).name).toArray⟩), (Value.bool ((o).host).v4), (Value.int .u32 (((o).host).addr : Int)), (Value.int .i64 (o).port), .int .i64 cp] := bk_
      have hXZ : Blk ((wc.alloc (Obj.cells #[.int .i64 m, .int .i64 c, (Value.bool (o).opaq), (Value.int .i64 (o).id), (Value.string ⟨((o).scheme).toArray⟩), (Value.string ⟨(((o).host).name).toArray⟩), (Value.bool ((o).host).v4), (Value.int .u32 (((o).host).addr : Int)), (Value.int .i64 (o).port), .int .i64 cp] 54)).alloc (Obj.cells #[.slice (some ⟨sb, so, none⟩) L.length cc] 55)) (w.heap.size + 1) 58 #[(.int .i64 0), (.bool false), (.bool false)] := bk_
      have hXE : Blk ((wc.alloc (Obj.cells #[.int .i64 m, .int .i64 c, (Value.bool (o).opaq), (Value.int .i64 (o).id), (Value.string ⟨((o).scheme).toArray⟩), (Value.string ⟨(((o).host).name).toArray⟩), (Value.bool ((o).host).v4), (Value.int .u32 (((o).host).addr : Int)), (Value.int .i64 (o).port), .int .i64 cp] 54)).alloc (Obj.cells #[.slice (some ⟨sb, so, none⟩) L.length cc] 55)) (w.heap.size + 2) 45 #[.int .i64 0] := bk_
      have hXA : Blk ((wc.alloc (Obj.cells #[.int .i64 m, .int .i64 c, (Value.bool (o).opaq), (Value.int .i64 (o).id), (Value.string ⟨((o).scheme).toArray⟩), (Value.string ⟨(((o).host).name).toArray⟩), (Value.bool ((o).host).v4), (Value.int .u32 (((o).host).addr : Int)), (Value.int .i64 (o).port), .int .i64 cp] 54)).alloc (Obj.cells #[.slice (some ⟨sb, so, none⟩) L.length cc] 55)) gA 58 #[(.int .i64 1), (.bool false), (.bool false)] := bk_
      have hXB : Blk ((wc.alloc (Obj.cells #[.int .i64 m, .int .i64 c, (Value.bool (o).opaq), (Value.int .i64 (o).id), (Value.string ⟨((o).scheme).toArray⟩), (Value.string ⟨(((o).host).name).toArray⟩), (Value.bool ((o).host).v4), (Value.int .u32 (((o).host).addr : Int)), (Value.int .i64 (o).port), .int .i64 cp] 54)).alloc (Obj.cells #[.slice (some ⟨sb, so, none⟩) L.length cc] 55)) gB 116 #[(.slice none 0 0), (.bool false), (.bool false), (.bool false)] := bk_
      generalize ((wc.alloc (Obj.cells #[.int .i64 m, .int .i64 c, (Value.bool (o).opaq), (Value.int .i64 (o).id), (Value.string ⟨((o).scheme).toArray⟩), (Value.string ⟨(((o).host).name).toArray⟩), (Value.bool ((o).host).v4), (Value.int .u32 (((o).host).addr : Int)), (Value.int .i64 (o).port), .int .i64 cp] 54)).alloc (Obj.cells #[.slice (some ⟨sb, so, none⟩) L.length cc] 55)) = Wx at *
      clear hw0 hwz hRl hRc hRf hZl hZc hZf hEl hEc hEf hAl hAc hAf hBc hBf hBR hBZ hBE hBA hBB
      have hwX : w.heap.size + 3 < Wx.heap.size := by omega
      have hcc : ∀ k, (h : k < L.length) → ∃ sb2 so2, some (Addr.mk sb so none) = some ⟨sb2, so2, none⟩ ∧ sb2 < w.heap.size ∧ ∀ i, i < 10 → Wx.cell? ⟨sb2, so2 + k * 10 + i, none⟩ = (hopcells L[k])[i]? := fun k h => by
        obtain ⟨b, o2, c2, e2, hB, hx⟩ := H.out.cells k h
        injection e2 with e3 e4 e5
        exact ⟨b, o2, e3, hB, fun i hi => (hXb.cell (p := ⟨b, o2 + k * 10 + i, none⟩) hB).trans (hx i hi)⟩
      have hseq := steps1_seq 19 (by omega) w Wx hE (wc.heap.size + 1) wc.heap.size gB m c cp o (some ⟨sb, so, none⟩) cc L hfr.out (by omega) (by omega) hXb hX1 hX2 (by omega) (by omega) (fun k h => by obtain ⟨B, d, e⟩ := hform.out k h; exact ⟨B, _, d, e⟩) hcc
      have hgX := hXB.lt
      clear hcc hX1 hX2 hfr hXs
      refine wpIn_rangeFunc_B rfl (by omega) (gf := 92) (lb := #[.pointer (some ⟨wc.heap.size + 1, 0, none⟩), .pointer (some ⟨wc.heap.size, 0, none⟩)]) rfl trivial (enters_of Tryz.func92 (by kernel_rfl) rfl) hseq (fun h k => h.trans k) (fun W l o o' hl h ho hw => VX.putObj (w := Wx) (by omega) W l o o' hl h ho hw) (fun _ => rfl)
        (WI w m c cp o L Wx.heap.size gA gB) (WX w m c o L) (WI.below (by omega) (by omega) (by omega)) (WX.below (by omega)) ⟨fun x h => absurd h (by simp), Nat.le_refl _, hXb, hXR, hXZ, hXE, hXA, _, _, _, _, hXB, fun q h => absurd h (by simp)⟩
        (WA w m c cp o L Wx.heap.size gA gB) ?hIa ?assign ?body ?done ?stop
      case hIa =>
        rintro pre x a' W l o1 o2 ⟨g, rfl, hg, hB, hI⟩ hl h ho
        exact ⟨g, rfl, hg, hB.put h ho _, (WI.below (by omega) (by omega) (by omega)) _ _ _ hI (below_put _ hl h)⟩
      case assign =>
        intro l pre x W hI hlen
        have hnW := hI.2.1
        obtain ⟨B3, d3, hfx⟩ := hform.out x.1 x.2
        unfold WA
        simp only [encStep, hfx]
        gi_wp2
        exact ⟨others_below ((Below.refl _ _).alloc (Nat.le_refl _) _), VX.of_below ((Below.refl _ _).alloc (Nat.le_refl _) _) (by omega), _, rfl, hnW, Blk.new _ _ _, (WI.below (by omega) (by omega) (by omega)) _ _ _ hI ((Below.refl _ _).alloc hnW _)⟩
      case body =>
        rintro l pre ⟨k, hk⟩ a' W ⟨g, rfl, hgW, hBS, hI⟩ hlen
        have hI2 := Lib.hid hI
        obtain ⟨hbad, hnW, hbw, hBR, hBZ, hBE, hBA, vh, ow, fo, nu, hBL, hlast⟩ := hI
        clear hbad hlast hBA hXR hXZ hXE hXA hXB hXb hlen
        simp only [List.setIfInBounds_toArray, List.set_cons_zero, List.set_cons_succ]
        obtain ⟨B3, d3, hfx⟩ := hform.out k hk
        have hs1 := fun X (hX : Below W.heap.size W X) t i => hsh.out X (hbw.trans (hX.mono (by omega))) k hk t i
        have ht1 := fun X (hX : Below W.heap.size W X) => htx.out X (hbw.trans (hX.mono (by omega)))
        obtain ⟨T, hT⟩ : ∃ T, Gl.textK o L k = T := ⟨_, rfl⟩
        have hbk : Gl.badK c o L k = (Gl.foreignK o L (k + 1) && !Gl.shared (hopAt L k).head T (c == 2)) := by rw [← hT]; rfl
        unfold Gl.textK at hT
        simp only at hBS
        rw [hfx] at hBS hs1
        clear hfx
        obtain ⟨Q, hQ⟩ : ∃ Q, Gl.ownH o (uAt L k) = Q := ⟨_, rfl⟩
        obtain ⟨F, hF⟩ : ∃ F, Gl.foreignK o L (k + 1) = F := ⟨_, rfl⟩
        obtain ⟨N, hN⟩ : ∃ N, Gl.nullK o L (k + 1) = N := ⟨_, rfl⟩
        rw [hQ, hF, hN] at hBS
        rw [hF] at hbk
        rw [hN] at hT
        replace hs1 := Lib.hid hs1
        replace ht1 := Lib.hid ht1
        replace hbk := Lib.hid hbk
        replace hQ := Lib.hid hQ
        replace hF := Lib.hid hF
        replace hN := Lib.hid hN
        replace hT := Lib.hid hT
        have hw0 := Below.refl W.heap.size W
        have hwz := hw0.size
        have hRl := hBR.lt
        have hRc := hBR.cell
        have hRf := hBR.frozen
        have hZl := hBZ.lt
        have hZc := hBZ.cell
        have hZf := hBZ.frozen
        have hEl := hBE.lt
        have hEc := hBE.cell
        have hEf := hBE.frozen
        have hLl := hBL.lt
        have hLc := hBL.cell
        have hLf := hBL.frozen
        have hSl := hBS.lt
        have hSc := hBS.cell
        have hSf := hBS.frozen
        gi_upto_region 17 with fail
        gi_cut [11] from 63 (fun x11 w' => x11 = (Value.string ⟨(Gl.originText o).toArray⟩) ∧ Below W.heap.size W w' ∧ Blk w' (w.heap.size) 54 #[.int .i64 m, .int .i64 c, (Value.bool (o).opaq), (Value.int .i64 (o).id), (Value.string ⟨((o).scheme).toArray⟩), (Value.string ⟨(((o).host).name).toArray⟩), (Value.bool ((o).host).v4), (Value.int .u32 (((o).host).addr : Int)), (Value.int .i64 (o).port), .int .i64 cp] ∧ Blk w' (w.heap.size + 1) 58 #[(.int .i64 0), (.bool false), (.bool false)] ∧ Blk w' (w.heap.size + 2) 45 #[(.int .i64 0)] ∧ Blk w' (gB) 116 #[vh, .bool ow, .bool fo, .bool nu] ∧ Blk w' (g) 116 #[.slice B3 (hopAt L k).head.length d3, .bool Q, .bool F, .bool N])
        case first =>
          gi_wp2_with (refine ⟨trivial, ?_⟩; gi_at_call 63; refine (CallsIn.inRound l (callsIn_wide.2 (ht1.out _ (bw_)))).mono ?_; rintro e w1 ⟨rfl, hb⟩; obtain ⟨hc, hfz⟩ := bcell hb; have hz := hb.size; (try simp at hz); (try have hz0 := lt_ hb w.heap.size); (try have hz1 := lt_ hb (w.heap.size + 1)); (try have hz2 := lt_ hb (w.heap.size + 2)); (try have hz3 := lt_ hb (w.heap.size + 3)); (try have hcA := fun o => hc w.heap.size o sz_); (try have hcB := fun o => hc (w.heap.size + 1) o sz_); (try (have i := cf_ hb g; obtain ⟨hcGg, hfGg, hzGg⟩ := i)); (try (have i := cf_ hb gA; obtain ⟨hcGgA, hfGgA, hzGgA⟩ := i)); (try (have i := cf_ hb gB; obtain ⟨hcGgB, hfGgB, hzGgB⟩ := i)); (try (have i := cf_ hb gC; obtain ⟨hcGgC, hfGgC, hzGgC⟩ := i)))
          gi_meet
          case rel =>
            exact ⟨rfl, bw_, bk_, bk_, bk_, bk_, bk_⟩
        case rest =>
        clear hw0 hwz hRl hRc hRf hZl hZc hZf hEl hEc hEf hLl hLc hLf hSl hSc hSf hBR hBZ hBE hBL hBS 
        obtain ⟨rfl, hw0, hBR, hBZ, hBE, hBL, hBS⟩ := hcut
        have hwz := hw0.size
        have hRl := hBR.lt
        have hRc := hBR.cell
        have hRf := hBR.frozen
        have hZl := hBZ.lt
        have hZc := hBZ.cell
        have hZf := hBZ.frozen
        have hEl := hBE.lt
        have hEc := hBE.cell
        have hEf := hBE.frozen
        have hLl := hBL.lt
        have hLc := hBL.cell
        have hLf := hBL.frozen
        have hSl := hBS.lt
        have hSc := hBS.cell
        have hSf := hBS.frozen
        first | gi_step | go_step
        first | gi_step | go_step
        gi_cut [11] from 63 (fun x11 w' => x11 = (Value.string ⟨(T).toArray⟩) ∧ Below W.heap.size W w' ∧ Blk w' (w.heap.size) 54 #[.int .i64 m, .int .i64 c, (Value.bool (o).opaq), (Value.int .i64 (o).id), (Value.string ⟨((o).scheme).toArray⟩), (Value.string ⟨(((o).host).name).toArray⟩), (Value.bool ((o).host).v4), (Value.int .u32 (((o).host).addr : Int)), (Value.int .i64 (o).port), .int .i64 cp] ∧ Blk w' (w.heap.size + 1) 58 #[(.int .i64 0), (.bool false), (.bool false)] ∧ Blk w' (w.heap.size + 2) 45 #[(.int .i64 0)] ∧ Blk w' (gB) 116 #[vh, .bool ow, .bool fo, .bool nu] ∧ Blk w' (g) 116 #[.slice B3 (hopAt L k).head.length d3, .bool Q, .bool F, .bool N])
        case first =>
          have hT2 := hT.out
          cases N
          · obtain rfl : Gl.originText o = T := by rw [if_neg (by decide)] at hT2; exact hT2
            clear hT2
            gi_wp2_with fail
            gi_meet
            case rel => exact ⟨rfl, bw_, bk_, bk_, bk_, bk_, bk_⟩
          · obtain rfl : [110, 117, 108, 108] = T := by rw [if_pos rfl] at hT2; exact hT2
            clear hT2
            gi_wp2_with fail
            gi_meet
            case rel => exact ⟨rfl, bw_, bk_, bk_, bk_, bk_, bk_⟩
        case rest =>
        clear hw0 hwz hRl hRc hRf hZl hZc hZf hEl hEc hEf hLl hLc hLf hSl hSc hSf hBR hBZ hBE hBL hBS 
        obtain ⟨rfl, hw0, hBR, hBZ, hBE, hBL, hBS⟩ := hcut
        have hwz := hw0.size
        have hRl := hBR.lt
        have hRc := hBR.cell
        have hRf := hBR.frozen
        have hZl := hBZ.lt
        have hZc := hBZ.cell
        have hZf := hBZ.frozen
        have hEl := hBE.lt
        have hEc := hBE.cell
        have hEf := hBE.frozen
        have hLl := hBL.lt
        have hLc := hBL.cell
        have hLf := hBL.frozen
        have hSl := hBS.lt
        have hSc := hBS.cell
        have hSf := hBS.frozen
        clear hT ht1
        have hs2 := Lib.hid (fun X hX => hs1.out X hX T (c == 2))
        clear hs1
        generalize Gl.shared (hopAt L k).head T (c == 2) = sh at *
        generalize (hopAt L k).head.length = nL at *
        by_cases h3 : m = 3
        · subst h3
          cases F
          · gi_wp2_with (refine ⟨trivial, ?_⟩)
            exact walk_round (bw_) hI2.out (by omega) (by omega) (by omega) hk (fun h => by rw [hbk.out] at h; exact absurd h.2 (by simp)) _ hQ.out hF.out hN.out
          · cases sh
            · have hb3 := hbk.out.trans rfl
              gi_wp2_with (refine ⟨trivial, ?_⟩; gi_at_call 24; refine (CallsIn.inRound l (callsIn_wide.2 (hs2.out _ (bw_)))).mono ?_; rintro e w1 ⟨rfl, hb⟩; obtain ⟨hc, hfz⟩ := bcell hb; have hz := hb.size; (try simp at hz); (try have hz0 := lt_ hb w.heap.size); (try have hz1 := lt_ hb (w.heap.size + 1)); (try have hz2 := lt_ hb (w.heap.size + 2)); (try have hz3 := lt_ hb (w.heap.size + 3)); (try have hcA := fun o => hc w.heap.size o sz_); (try have hcB := fun o => hc (w.heap.size + 1) o sz_); (try (have i := cf_ hb g; obtain ⟨hcGg, hfGg, hzGg⟩ := i)); (try (have i := cf_ hb gA; obtain ⟨hcGgA, hfGgA, hzGgA⟩ := i)); (try (have i := cf_ hb gB; obtain ⟨hcGgB, hfGgB, hzGgB⟩ := i)); (try (have i := cf_ hb gC; obtain ⟨hcGgC, hfGgC, hzGgC⟩ := i)))
              exact walk_stop (bw_) hI2.out (by omega) hk hb3
            · gi_wp2_with (refine ⟨trivial, ?_⟩; gi_at_call 24; refine (CallsIn.inRound l (callsIn_wide.2 (hs2.out _ (bw_)))).mono ?_; rintro e w1 ⟨rfl, hb⟩; obtain ⟨hc, hfz⟩ := bcell hb; have hz := hb.size; (try simp at hz); (try have hz0 := lt_ hb w.heap.size); (try have hz1 := lt_ hb (w.heap.size + 1)); (try have hz2 := lt_ hb (w.heap.size + 2)); (try have hz3 := lt_ hb (w.heap.size + 3)); (try have hcA := fun o => hc w.heap.size o sz_); (try have hcB := fun o => hc (w.heap.size + 1) o sz_); (try (have i := cf_ hb g; obtain ⟨hcGg, hfGg, hzGg⟩ := i)); (try (have i := cf_ hb gA; obtain ⟨hcGgA, hfGgA, hzGgA⟩ := i)); (try (have i := cf_ hb gB; obtain ⟨hcGgB, hfGgB, hzGgB⟩ := i)); (try (have i := cf_ hb gC; obtain ⟨hcGgC, hfGgC, hzGgC⟩ := i)))
              exact walk_round (bw_) hI2.out (by omega) (by omega) (by omega) hk (fun h => by rw [hbk.out] at h; exact absurd h.2 (by simp)) _ hQ.out hF.out hN.out
        · have h3b : (m == 3) = false := by rw [beq_eq_false_iff_ne]; exact h3
          gi_wp2_with (refine ⟨trivial, ?_⟩)
          exact walk_round (bw_) hI2.out (by omega) (by omega) (by omega) hk (fun h => by exact h3 h.1) _ hQ.out hF.out hN.out
      case done =>
        rintro D xs W hD hxs ⟨hbad, hnW, hbw, hBR, hBZ, hBE, hBA, vh, ow, fo, nu0, hBL, hlast⟩ hK
        have hany : ¬ (m = 3 ∧ Gl.anyBad c o L L.length = true) := by
          rintro ⟨h3, h4⟩
          unfold Gl.anyBad at h4
          rw [List.any_eq_true] at h4
          obtain ⟨k, hk, h5⟩ := h4
          rw [← hxs, List.mem_map] at hk
          obtain ⟨x, hx, rfl⟩ := hk
          exact hbad x hx ⟨h3, h5⟩
        have hq : ∃ q, xs.getLast? = some q ∧ q.1 = L.length - 1 := by
          have h1 : (xs.map (fun x => x.1)).getLast? = some (L.length - 1) := by rw [hxs, List.getLast?_range, if_neg (by omega)]
          rw [List.getLast?_map, Option.map_eq_some_iff] at h1
          exact h1
        obtain ⟨q, hq1, hq2⟩ := hq
        obtain ⟨rfl, rfl, rfl⟩ := hlast q hq1
        rw [hq2, show L.length - 1 + 1 = L.length by omega] at hBL
        have hDl := (Array.getElem?_eq_some_iff.1 hK).1
        clear hbad hlast hXR hXZ hXE hXA hXB hXb hxs hq1 hq2 q xs
        obtain ⟨r, hr⟩ : ∃ r, Gl.gotOf m c cp o L = r := ⟨_, rfl⟩
        have hG2 : Hid (G = (r, 0)) := Lib.hid (by rw [hgood2.out, if_neg hany, hr])
        clear hgood2 hany
        unfold Gl.gotOf at hr
        simp only at hr
        generalize Gl.nullK o L L.length = nu at *
        generalize Gl.foreignK o L L.length = other at *
        generalize Gl.ownH o (uAt L (L.length - 1)) = own at *
        obtain ⟨cq, hcq⟩ : ∃ b, (c == 2) = b := ⟨_, rfl⟩
        obtain ⟨cs, hcs⟩ : ∃ b, (c == 1) = b := ⟨_, rfl⟩
        obtain ⟨pq, hpq⟩ : ∃ b, (cp == 1) = b := ⟨_, rfl⟩
        have hpn : (cp != 1) = !pq := by rw [bne, hpq]
        rw [hcq, hcs, hpq] at hr
        obtain ⟨rt, rc, rn⟩ := r
        rw [Gl.Got.mk.injEq] at hr
        obtain ⟨hrt, hrc, hrn⟩ := hr
        obtain rfl := hrn
        replace hrt := Lib.hid hrt
        replace hrc := Lib.hid hrc
        have hw0 := hbw
        have hwz := hw0.size
        have hBB := hBL
        have hwD : w.heap.size + 2 < D := by omega
        clear hBL hbw
        have hRl := hBR.lt
        have hRc := hBR.cell
        have hRf := hBR.frozen
        have hZl := hBZ.lt
        have hZc := hBZ.cell
        have hZf := hBZ.frozen
        have hEl := hBE.lt
        have hEc := hBE.cell
        have hEf := hBE.frozen
        have hAl := hBA.lt
        have hAc := hBA.cell
        have hAf := hBA.frozen
        have hBl := hBB.lt
        have hBc := hBB.cell
        have hBf := hBB.frozen
        gi_upto_region 23 with fail
        gi_cut [12] from 87 (fun x12 w' => ∃ gC, x12 = .pointer (some ⟨gC, 0, none⟩) ∧ Below w.heap.size w w' ∧ Blk w' (w.heap.size) 54 #[.int .i64 m, .int .i64 c, (Value.bool (o).opaq), (Value.int .i64 (o).id), (Value.string ⟨((o).scheme).toArray⟩), (Value.string ⟨(((o).host).name).toArray⟩), (Value.bool ((o).host).v4), (Value.int .u32 (((o).host).addr : Int)), (Value.int .i64 (o).port), .int .i64 cp] ∧ Blk w' (w.heap.size + 1) 58 #[(.int .i64 0), (.bool false), (.bool false)] ∧ Blk w' (w.heap.size + 2) 45 #[(.int .i64 0)] ∧ Blk w' (gA) 58 #[(.int .i64 1), (.bool false), (.bool false)] ∧ Blk w' (gB) 116 #[vh, .bool own, .bool other, .bool nu] ∧ Blk w' (gC) 58 #[(.int .i64 1), (.bool false), (.bool false)] ∧ w'.heap[D]? = some (.deferred (some [])) ∧ gB < gC ∧ w.heap.size + 2 < gC ∧ gA < gC ∧ D < gC)
        case first =>
          gi_wp2_with fail
          gi_meet
          case rel =>
            exact ⟨_, rfl, bw_, bk_, bk_, bk_, bk_, bk_, bk_, by exact dk_, by first | omega | (simp; omega) | (simp; done), by first | omega | (simp; omega) | (simp; done), by first | omega | (simp; omega) | (simp; done), by first | omega | (simp; omega) | (simp; done)⟩
        case rest =>
        clear hw0 hwz hRl hRc hRf hZl hZc hZf hEl hEc hEf hAl hAc hAf hBl hBc hBf hBR hBZ hBE hBA hBB hK
        obtain ⟨gC, rfl, hw0, hBR, hBZ, hBE, hBA, hBB, hBC, hK, hzC, hzC2, hzC3, hzD⟩ := hcut
        have hwz := hw0.size
        have hRl := hBR.lt
        have hRc := hBR.cell
        have hRf := hBR.frozen
        have hZl := hBZ.lt
        have hZc := hBZ.cell
        have hZf := hBZ.frozen
        have hEl := hBE.lt
        have hEc := hBE.cell
        have hEf := hBE.frozen
        have hAl := hBA.lt
        have hAc := hBA.cell
        have hAf := hBA.frozen
        have hBl := hBB.lt
        have hBc := hBB.cell
        have hBf := hBB.frozen
        have hCl := hBC.lt
        have hCc := hBC.cell
        have hCf := hBC.frozen
        gi_upto_region 24 with fail
        gi_cut [] from 87 (fun  w' => Below w.heap.size w w' ∧ Blk w' (w.heap.size) 54 #[.int .i64 m, .int .i64 c, (Value.bool (o).opaq), (Value.int .i64 (o).id), (Value.string ⟨((o).scheme).toArray⟩), (Value.string ⟨(((o).host).name).toArray⟩), (Value.bool ((o).host).v4), (Value.int .u32 (((o).host).addr : Int)), (Value.int .i64 (o).port), .int .i64 cp] ∧ Blk w' (w.heap.size + 1) 58 #[(.int .i64 0), (.bool false), (.bool false)] ∧ Blk w' (w.heap.size + 2) 45 #[(.int .i64 0)] ∧ Blk w' (gA) 58 #[(.int .i64 1), (.bool false), (.bool false)] ∧ Blk w' (gB) 116 #[vh, .bool own, .bool other, .bool nu] ∧ Blk w' (gC) 58 #[(.int .i64 1), (.bool false), (.bool nu)] ∧ w'.heap[D]? = some (.deferred (some [])) ∧ gB < gC ∧ w.heap.size + 2 < gC ∧ gA < gC ∧ D < gC)
        case first =>
          gi_wp2_with fail
          gi_meet
          case rel =>
            exact ⟨bw_, bks_, bks_, bks_, bks_, bks_, by exact hBC.set_ 2 (.bool nu), by exact dk_, by first | omega | (simp; omega) | (simp; done), by first | omega | (simp; omega) | (simp; done), by first | omega | (simp; omega) | (simp; done), by first | omega | (simp; omega) | (simp; done)⟩
        case rest =>
        clear hw0 hwz hRl hRc hRf hZl hZc hZf hEl hEc hEf hAl hAc hAf hBl hBc hBf hCl hCc hCf hBR hBZ hBE hBA hBB hBC hK hzC hzC2 hzC3 hzD
        obtain ⟨hw0, hBR, hBZ, hBE, hBA, hBB, hBC, hK, hzC, hzC2, hzC3, hzD⟩ := hcut
        have hwz := hw0.size
        have hRl := hBR.lt
        have hRc := hBR.cell
        have hRf := hBR.frozen
        have hZl := hBZ.lt
        have hZc := hBZ.cell
        have hZf := hBZ.frozen
        have hEl := hBE.lt
        have hEc := hBE.cell
        have hEf := hBE.frozen
        have hAl := hBA.lt
        have hAc := hBA.cell
        have hAf := hBA.frozen
        have hBl := hBB.lt
        have hBc := hBB.cell
        have hBf := hBB.frozen
        have hCl := hBC.lt
        have hCc := hBC.cell
        have hCf := hBC.frozen
        gi_upto_region 25 with fail
        gi_cut [] from 87 (fun  w' => Below w.heap.size w w' ∧ Blk w' (w.heap.size) 54 #[.int .i64 m, .int .i64 c, (Value.bool (o).opaq), (Value.int .i64 (o).id), (Value.string ⟨((o).scheme).toArray⟩), (Value.string ⟨(((o).host).name).toArray⟩), (Value.bool ((o).host).v4), (Value.int .u32 (((o).host).addr : Int)), (Value.int .i64 (o).port), .int .i64 cp] ∧ Blk w' (w.heap.size + 1) 58 #[(.int .i64 0), (.bool false), (.bool false)] ∧ Blk w' (w.heap.size + 2) 45 #[(.int .i64 0)] ∧ Blk w' (gA) 58 #[(.int .i64 1), (.bool false), (.bool false)] ∧ Blk w' (gB) 116 #[vh, .bool own, .bool other, .bool nu] ∧ Blk w' (gC) 58 #[(.int .i64 1), (.bool cq), (.bool nu)] ∧ w'.heap[D]? = some (.deferred (some [])) ∧ gB < gC ∧ w.heap.size + 2 < gC ∧ gA < gC ∧ D < gC)
        case first =>
          gi_wp2_with fail
          gi_meet
          case rel =>
            exact ⟨bw_, bks_, bks_, bks_, bks_, bks_, by exact hBC.set_ 1 (.bool cq), by exact dk_, by first | omega | (simp; omega) | (simp; done), by first | omega | (simp; omega) | (simp; done), by first | omega | (simp; omega) | (simp; done), by first | omega | (simp; omega) | (simp; done)⟩
        case rest =>
        clear hw0 hwz hRl hRc hRf hZl hZc hZf hEl hEc hEf hAl hAc hAf hBl hBc hBf hCl hCc hCf hBR hBZ hBE hBA hBB hBC hK hzC hzC2 hzC3 hzD
        obtain ⟨hw0, hBR, hBZ, hBE, hBA, hBB, hBC, hK, hzC, hzC2, hzC3, hzD⟩ := hcut
        have hwz := hw0.size
        have hRl := hBR.lt
        have hRc := hBR.cell
        have hRf := hBR.frozen
        have hZl := hBZ.lt
        have hZc := hBZ.cell
        have hZf := hBZ.frozen
        have hEl := hBE.lt
        have hEc := hBE.cell
        have hEf := hBE.frozen
        have hAl := hBA.lt
        have hAc := hBA.cell
        have hAf := hBA.frozen
        have hBl := hBB.lt
        have hBc := hBB.cell
        have hBf := hBB.frozen
        have hCl := hBC.lt
        have hCc := hBC.cell
        have hCf := hBC.frozen
        first | gi_step | go_step
        first | gi_step | go_step
        gi_cut [] from 87 (fun  w' => Below w.heap.size w w' ∧ Blk w' (w.heap.size) 54 #[.int .i64 m, .int .i64 c, (Value.bool (o).opaq), (Value.int .i64 (o).id), (Value.string ⟨((o).scheme).toArray⟩), (Value.string ⟨(((o).host).name).toArray⟩), (Value.bool ((o).host).v4), (Value.int .u32 (((o).host).addr : Int)), (Value.int .i64 (o).port), .int .i64 cp] ∧ Blk w' (w.heap.size + 1) 58 #[(.int .i64 0), (.bool false), (.bool false)] ∧ Blk w' (w.heap.size + 2) 45 #[(.int .i64 0)] ∧ Blk w' (gA) 58 #[(.int .i64 1), (.bool false), (.bool false)] ∧ Blk w' (gB) 116 #[vh, .bool own, .bool other, .bool nu] ∧ Blk w' (gC) 58 #[(.int .i64 rt), (.bool rc), (.bool nu)] ∧ w'.heap[D]? = some (.deferred (some [])) ∧ gB < gC ∧ w.heap.size + 2 < gC ∧ gA < gC ∧ D < gC)
        case first =>
          have hrt2 := hrt.out
          have hrc2 := hrc.out
          have h123 : m = 1 ∨ m = 2 ∨ m = 3 := by omega
          rcases h123 with rfl | rfl | rfl
          · skip
            obtain rfl : (1 : Int) = rt := by rw [← hrt2] <;> rfl
            obtain rfl : true = rc := by rw [← hrc2]; simp
            clear hrt2 hrc2
            gi_wp2_with fail
            gi_meet
            case rel => exact ⟨bw_, bks_, bks_, bks_, bks_, bks_, by exact (hBC.set_ 1 (.bool true)), by exact dk_, by first | omega | (simp; omega) | (simp; done), by first | omega | (simp; omega) | (simp; done), by first | omega | (simp; omega) | (simp; done), by first | omega | (simp; omega) | (simp; done)⟩
          · cases other
            · cases cs
              · skip
                obtain rfl : (1 : Int) = rt := by rw [← hrt2] <;> rfl
                obtain rfl : cq = rc := by rw [← hrc2]; simp
                clear hrt2 hrc2
                gi_wp2_with fail
                gi_meet
                case rel => exact ⟨bw_, bks_, bks_, bks_, bks_, bks_, by exact hBC, by exact dk_, by first | omega | (simp; omega) | (simp; done), by first | omega | (simp; omega) | (simp; done), by first | omega | (simp; omega) | (simp; done), by first | omega | (simp; omega) | (simp; done)⟩
              · obtain rfl : false = cq := by rw [← hcq]; rw [beq_iff_eq] at hcs; rw [hcs]; rfl
                obtain rfl : (1 : Int) = rt := by rw [← hrt2] <;> rfl
                obtain rfl : own = rc := by rw [← hrc2]; simp
                clear hrt2 hrc2
                gi_wp2_with fail
                gi_meet
                case rel => exact ⟨bw_, bks_, bks_, bks_, bks_, bks_, by exact (hBC.set_ 1 (.bool own)), by exact dk_, by first | omega | (simp; omega) | (simp; done), by first | omega | (simp; omega) | (simp; done), by first | omega | (simp; omega) | (simp; done), by first | omega | (simp; omega) | (simp; done)⟩
            · cases cs
              · cases cq
                · skip
                  obtain rfl : (3 : Int) = rt := by rw [← hrt2] <;> rfl
                  obtain rfl : false = rc := by rw [← hrc2]; simp
                  clear hrt2 hrc2
                  gi_wp2_with fail
                  gi_meet
                  case rel => exact ⟨bw_, bks_, bks_, bks_, bks_, bks_, by exact ((hBC.set_ 0 (.int .i64 3)).set_ 1 (.bool false)), by exact dk_, by first | omega | (simp; omega) | (simp; done), by first | omega | (simp; omega) | (simp; done), by first | omega | (simp; omega) | (simp; done), by first | omega | (simp; omega) | (simp; done)⟩
                · cases pq
                  · skip
                    obtain rfl : (3 : Int) = rt := by rw [← hrt2] <;> rfl
                    obtain rfl : true = rc := by rw [← hrc2]; simp
                    clear hrt2 hrc2
                    gi_wp2_with fail
                    gi_meet
                    case rel => exact ⟨bw_, bks_, bks_, bks_, bks_, bks_, by exact ((hBC.set_ 0 (.int .i64 3)).set_ 1 (.bool true)), by exact dk_, by first | omega | (simp; omega) | (simp; done), by first | omega | (simp; omega) | (simp; done), by first | omega | (simp; omega) | (simp; done), by first | omega | (simp; omega) | (simp; done)⟩
                  · skip
                    obtain rfl : (3 : Int) = rt := by rw [← hrt2] <;> rfl
                    obtain rfl : false = rc := by rw [← hrc2]; simp
                    clear hrt2 hrc2
                    gi_wp2_with fail
                    gi_meet
                    case rel => exact ⟨bw_, bks_, bks_, bks_, bks_, bks_, by exact ((hBC.set_ 0 (.int .i64 3)).set_ 1 (.bool false)), by exact dk_, by first | omega | (simp; omega) | (simp; done), by first | omega | (simp; omega) | (simp; done), by first | omega | (simp; omega) | (simp; done), by first | omega | (simp; omega) | (simp; done)⟩
              · obtain rfl : false = cq := by rw [← hcq]; rw [beq_iff_eq] at hcs; rw [hcs]; rfl
                cases own
                · skip
                  obtain rfl : (3 : Int) = rt := by rw [← hrt2] <;> rfl
                  obtain rfl : false = rc := by rw [← hrc2]; simp
                  clear hrt2 hrc2
                  gi_wp2_with fail
                  gi_meet
                  case rel => exact ⟨bw_, bks_, bks_, bks_, bks_, bks_, by exact (((hBC.set_ 1 (.bool false)).set_ 0 (.int .i64 3)).set_ 1 (.bool false)), by exact dk_, by first | omega | (simp; omega) | (simp; done), by first | omega | (simp; omega) | (simp; done), by first | omega | (simp; omega) | (simp; done), by first | omega | (simp; omega) | (simp; done)⟩
                · cases pq
                  · skip
                    obtain rfl : (3 : Int) = rt := by rw [← hrt2] <;> rfl
                    obtain rfl : true = rc := by rw [← hrc2]; simp
                    clear hrt2 hrc2
                    gi_wp2_with fail
                    gi_meet
                    case rel => exact ⟨bw_, bks_, bks_, bks_, bks_, bks_, by exact (((hBC.set_ 1 (.bool true)).set_ 0 (.int .i64 3)).set_ 1 (.bool true)), by exact dk_, by first | omega | (simp; omega) | (simp; done), by first | omega | (simp; omega) | (simp; done), by first | omega | (simp; omega) | (simp; done), by first | omega | (simp; omega) | (simp; done)⟩
                  · skip
                    obtain rfl : (3 : Int) = rt := by rw [← hrt2] <;> rfl
                    obtain rfl : false = rc := by rw [← hrc2]; simp
                    clear hrt2 hrc2
                    gi_wp2_with fail
                    gi_meet
                    case rel => exact ⟨bw_, bks_, bks_, bks_, bks_, bks_, by exact (((hBC.set_ 1 (.bool true)).set_ 0 (.int .i64 3)).set_ 1 (.bool false)), by exact dk_, by first | omega | (simp; omega) | (simp; done), by first | omega | (simp; omega) | (simp; done), by first | omega | (simp; omega) | (simp; done), by first | omega | (simp; omega) | (simp; done)⟩
          · cases other
            · skip
              cases cq
              · cases cs
                · skip
                  obtain rfl : (1 : Int) = rt := by rw [← hrt2] <;> rfl
                  obtain rfl : false = rc := by rw [← hrc2]; simp
                  clear hrt2 hrc2
                  gi_wp2_with fail
                  gi_meet
                  case rel => exact ⟨bw_, bks_, bks_, bks_, bks_, bks_, by exact (hBC.set_ 1 (.bool false)), by exact dk_, by first | omega | (simp; omega) | (simp; done), by first | omega | (simp; omega) | (simp; done), by first | omega | (simp; omega) | (simp; done), by first | omega | (simp; omega) | (simp; done)⟩
                · skip
                  obtain rfl : (1 : Int) = rt := by rw [← hrt2] <;> rfl
                  obtain rfl : true = rc := by rw [← hrc2]; simp
                  clear hrt2 hrc2
                  gi_wp2_with fail
                  gi_meet
                  case rel => exact ⟨bw_, bks_, bks_, bks_, bks_, bks_, by exact (hBC.set_ 1 (.bool true)), by exact dk_, by first | omega | (simp; omega) | (simp; done), by first | omega | (simp; omega) | (simp; done), by first | omega | (simp; omega) | (simp; done), by first | omega | (simp; omega) | (simp; done)⟩
              · skip
                obtain rfl : (1 : Int) = rt := by rw [← hrt2] <;> rfl
                obtain rfl : true = rc := by rw [← hrc2]; simp
                clear hrt2 hrc2
                gi_wp2_with fail
                gi_meet
                case rel => exact ⟨bw_, bks_, bks_, bks_, bks_, bks_, by exact (hBC.set_ 1 (.bool true)), by exact dk_, by first | omega | (simp; omega) | (simp; done), by first | omega | (simp; omega) | (simp; done), by first | omega | (simp; omega) | (simp; done), by first | omega | (simp; omega) | (simp; done)⟩
            · skip
              cases cq
              · cases cs
                · skip
                  obtain rfl : (2 : Int) = rt := by rw [← hrt2] <;> rfl
                  obtain rfl : false = rc := by rw [← hrc2]; simp
                  clear hrt2 hrc2
                  gi_wp2_with fail
                  gi_meet
                  case rel => exact ⟨bw_, bks_, bks_, bks_, bks_, bks_, by exact ((hBC.set_ 0 (.int .i64 2)).set_ 1 (.bool false)), by exact dk_, by first | omega | (simp; omega) | (simp; done), by first | omega | (simp; omega) | (simp; done), by first | omega | (simp; omega) | (simp; done), by first | omega | (simp; omega) | (simp; done)⟩
                · skip
                  obtain rfl : (2 : Int) = rt := by rw [← hrt2] <;> rfl
                  obtain rfl : false = rc := by rw [← hrc2]; simp
                  clear hrt2 hrc2
                  gi_wp2_with fail
                  gi_meet
                  case rel => exact ⟨bw_, bks_, bks_, bks_, bks_, bks_, by exact ((hBC.set_ 0 (.int .i64 2)).set_ 1 (.bool false)), by exact dk_, by first | omega | (simp; omega) | (simp; done), by first | omega | (simp; omega) | (simp; done), by first | omega | (simp; omega) | (simp; done), by first | omega | (simp; omega) | (simp; done)⟩
              · skip
                obtain rfl : (2 : Int) = rt := by rw [← hrt2] <;> rfl
                obtain rfl : true = rc := by rw [← hrc2]; simp
                clear hrt2 hrc2
                gi_wp2_with fail
                gi_meet
                case rel => exact ⟨bw_, bks_, bks_, bks_, bks_, bks_, by exact ((hBC.set_ 0 (.int .i64 2)).set_ 1 (.bool true)), by exact dk_, by first | omega | (simp; omega) | (simp; done), by first | omega | (simp; omega) | (simp; done), by first | omega | (simp; omega) | (simp; done), by first | omega | (simp; omega) | (simp; done)⟩
        case rest =>
        clear hw0 hwz hRl hRc hRf hZl hZc hZf hEl hEc hEf hAl hAc hAf hBl hBc hBf hCl hCc hCf hBR hBZ hBE hBA hBB hBC hK hzC hzC2 hzC3 hzD
        obtain ⟨hw0, hBR, hBZ, hBE, hBA, hBB, hBC, hK, hzC, hzC2, hzC3, hzD⟩ := hcut
        have hwz := hw0.size
        have hRl := hBR.lt
        have hRc := hBR.cell
        have hRf := hBR.frozen
        have hZl := hBZ.lt
        have hZc := hBZ.cell
        have hZf := hBZ.frozen
        have hEl := hBE.lt
        have hEc := hBE.cell
        have hEf := hBE.frozen
        have hAl := hBA.lt
        have hAc := hBA.cell
        have hAf := hBA.frozen
        have hBl := hBB.lt
        have hBc := hBB.cell
        have hBf := hBB.frozen
        have hCl := hBC.lt
        have hCc := hBC.cell
        have hCf := hBC.frozen
        clear hrt hrc hcq hcs hpq hpn
        gi_wp2_with fail
        refine walk_fin (D := D) (a := rt) (b := rc) (d := nu) (e := 0) (by omega) (by exact dk_) ?_ ?_ (bw_) _ rfl rfl (by rw [hG2.out])
        · refine Blk.far ?_ (by show w.heap.size + 1 ≠ w.heap.size + 1 + 1; omega) _
          exact ((Blk.set_ (t := 58) (cs := #[(.int .i64 0), (.bool false), (.bool false)]) (by exact bks_) 0 (.int .i64 rt)).set_ 1 (.bool rc)).set_ 2 (.bool nu)
        · exact Blk.set_ (cs := #[.int .i64 0]) (by exact bks_) 0 (.int .i64 0)
      case stop =>
        rintro D cd pre W hD ⟨rfl, ⟨k, hk, rfl, hb⟩, hB, hBZ, hBE⟩ hK
        have hf1 : Hid (G = ({}, 131)) := Lib.hid (by
          rw [hgood2.out, if_pos]
          refine ⟨rfl, anyBad_mono (a := k + 1) (by omega) ?_⟩
          rw [anyBad_succ, hb, Bool.or_true])
        gi_wp2
        exact walk_fin (by omega) hK hBZ hBE hB _ rfl rfl (by rw [hf1.out] <;> rfl)
end Go.Proofs.YtbafofldgkigmaaGreatDoor
