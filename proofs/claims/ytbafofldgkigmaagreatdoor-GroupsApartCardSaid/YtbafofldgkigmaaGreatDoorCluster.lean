/- groups: Cluster. -/
import Derived.Test.YtbafofldgkigmaaGreatDoorOpen
namespace Go.Proofs.YtbafofldgkigmaaGreatDoor
open Go.RowKit
namespace Gl
def cluster0 : Cluster := ⟨0, 0, [], false⟩
def findA (n : Int) (k : Bs) : List (Int × Bs × Int) → Option Int
  | [] => none
  | (a, x, v) :: r => if n = a ∧ k = x then some v else findA n k r
def lookC : List (Int × Cluster) → Int → Option Cluster
  | [], _ => none
  | (a, c) :: r, n => if n = a then some c else lookC r n
end Gl
theorem Mp.alloc {w : World} {r : Nat} {L : List (Value × Value)} (h : Mp w r L) (o : Obj) : Mp (w.alloc o) r L := h.at_ (Below.heap_alloc w o r h.lt)
theorem But.setNew {L : List Nat} {a w : World} (h : But L a w) {p : Addr} (hp : a.heap.size ≤ p.block) (u : Value) : But L a (w.setCell p u) :=
  ⟨h.os, h.tape, h.output, by simpa [World.setCell] using h.size, fun j hj hn => (Below.heap_setCell w p u j (by omega)).trans (h.block j hj hn)⟩
theorem findPlace_A (n : Int) (k : List UInt8) (A : List (Int × List UInt8 × Int)) (i : Nat) : (findPlace n k A i).map (·.2) = (Gl.findA n k A).map (fun v => Value.int .i64 v) ∧ (findPlace n k A i).isSome = (Gl.findA n k A).isSome := by
  induction A generalizing i with
  | nil => exact ⟨rfl, rfl⟩
  | cons a r ih =>
    obtain ⟨x, y, v⟩ := a
    unfold findPlace Gl.findA
    by_cases q : n = x ∧ k = y
    · simp [q]
    · simp only [q, if_false]
      exact ih (i + 1)
theorem findI_clusters (n : Int) (C : List (Int × Gl.Cluster)) (i : Nat) : ((findI n (C.map (fun e => (e.1, Gl.clusterV e.2))) i).map (·.2)) = (Gl.lookC C n).map Gl.clusterV ∧ (findI n (C.map (fun e => (e.1, Gl.clusterV e.2))) i).isSome = (Gl.lookC C n).isSome := by
  induction C generalizing i with
  | nil => exact ⟨rfl, rfl⟩
  | cons a r ih =>
    obtain ⟨x, b⟩ := a
    unfold Gl.lookC
    simp only [List.map_cons, findI]
    by_cases q : n = x
    · simp [q]
    · simp only [q, if_false]
      exact ih (i + 1)
theorem look_places (w : World) (t : Nat) (A : List (Int × List UInt8 × Int)) (n : Int) (k : List UInt8) (h : Mp w t (placesE A)) :
    (Instr.lookup 130 (.map (some t)) (placeV n k) true).run Tryz.prog w = .ok (.tuple #[.int .i64 ((Gl.findA n k A).getD 0), .bool (Gl.findA n k A).isSome]) w := by
  obtain ⟨es, c, h1, h2, h3⟩ := h
  obtain ⟨f1, f2⟩ := findPlace_A n k A 0
  have hf := run_find_place w n k A es.toList h2
  rw [run_look (P := Tryz.prog) w 130 149 3 t _ es c (.int .i64 0) _ true Tryz.underlying130 (by kernel_rfl) h1 (run_place_check w n k) hf, f1, f2]
  cases Gl.findA n k A <;> rfl
theorem look_clusters (w : World) (s : Nat) (C : List (Int × Gl.Cluster)) (n : Int) (h : Mp w s (clustersE C)) (ok : Bool) :
    (Instr.lookup 129 (.map (some s)) (.int .i64 n) ok).run Tryz.prog w = .ok (if ok then .tuple #[Gl.clusterV ((Gl.lookC C n).getD Gl.cluster0), .bool (Gl.lookC C n).isSome] else Gl.clusterV ((Gl.lookC C n).getD Gl.cluster0)) w := by
  obtain ⟨es, c, h1, h2, h3⟩ := h
  obtain ⟨f1, f2⟩ := findI_clusters n C 0
  have hf : (Instr.findKey 3 (.int .i64 n) es.toList).run Tryz.prog w = .ok (findI n (C.map (fun e => (e.1, Gl.clusterV e.2))) 0) w :=
    MapKept.run_findKey (d := .int .i64) (by kernel_rfl) (findNow_int n _ _ 0 (by rw [h2]; simp [clustersE, Function.comp_def]))
  rw [run_look (P := Tryz.prog) w 129 3 75 s _ es c (Gl.clusterV Gl.cluster0) _ ok Tryz.underlying129 (by kernel_rfl) h1 (fun b => MapKept.run_checkKey (d := .int .i64) (by kernel_rfl) (by simp [MapKept.IsKey]) b 9999) hf, f1, f2]
  cases Gl.lookC C n <;> rfl
theorem lay_places (w : World) (t : Nat) (A : List (Int × List UInt8 × Int)) (n : Int) (k : List UInt8) (v : Int) (h : Mp w t (placesE A)) (hn : Gl.findA n k A = none) :
    ∃ w', (Instr.mapUpdate 130 (.map (some t)) (placeV n k) (.int .i64 v)).run Tryz.prog w = .ok () w' ∧ (∃ o, w' = w.putObj t o) ∧ Mp w' t (placesE (A ++ [(n, k, v)])) := by
  obtain ⟨es, c, h1, h2, h3⟩ := h
  obtain ⟨f1, f2⟩ := findPlace_A n k A 0
  have hf := run_find_place w n k A es.toList h2
  rw [hn] at f2
  have f3 : findPlace n k A 0 = none := by
    cases hq : findPlace n k A 0 with
    | none => rfl
    | some x => rw [hq] at f2; simp at f2
  rw [f3] at hf
  refine ⟨_, run_lay (P := Tryz.prog) w 130 149 3 t _ _ es c Tryz.underlying130 h1 (run_place_check w n k) hf, ⟨_, rfl⟩, ?_⟩
  rw [show placesE (A ++ [(n, k, v)]) = placesE A ++ [(placeV n k, .int .i64 v)] by simp [placesE]]
  exact Mp.lay h1 h2 h3 _ _
theorem lookC_none (C : List (Int × Gl.Cluster)) (n : Int) (h : ∀ e ∈ C, e.1 < n) : Gl.lookC C n = none := by
  induction C with
  | nil => rfl
  | cons a r ih =>
    obtain ⟨x, b⟩ := a
    unfold Gl.lookC
    have := h (x, b) (by simp)
    simp only at this
    rw [if_neg (by omega)]
    exact ih (fun e he => h e (by simp [he]))
theorem lay_clusters (w : World) (s : Nat) (C : List (Int × Gl.Cluster)) (n : Int) (v : Gl.Cluster) (h : Mp w s (clustersE C)) (hn : Gl.lookC C n = none) :
    ∃ w', (Instr.mapUpdate 129 (.map (some s)) (.int .i64 n) (Gl.clusterV v)).run Tryz.prog w = .ok () w' ∧ (∃ o, w' = w.putObj s o) ∧ Mp w' s (clustersE (C ++ [(n, v)])) := by
  obtain ⟨es, c, h1, h2, h3⟩ := h
  obtain ⟨f1, f2⟩ := findI_clusters n C 0
  have hf : (Instr.findKey 3 (.int .i64 n) es.toList).run Tryz.prog w = .ok (findI n (C.map (fun e => (e.1, Gl.clusterV e.2))) 0) w :=
    MapKept.run_findKey (d := .int .i64) (by kernel_rfl) (findNow_int n _ _ 0 (by rw [h2]; simp [clustersE, Function.comp_def]))
  rw [hn] at f2
  have f3 : findI n (C.map (fun e => (e.1, Gl.clusterV e.2))) 0 = none := by
    cases hq : findI n (C.map (fun e => (e.1, Gl.clusterV e.2))) 0 with
    | none => rfl
    | some x => rw [hq] at f2; simp at f2
  rw [f3] at hf
  refine ⟨_, run_lay (P := Tryz.prog) w 129 3 75 s _ _ es c Tryz.underlying129 h1 (fun b => MapKept.run_checkKey (d := .int .i64) (by kernel_rfl) (by simp [MapKept.IsKey]) b 9999) hf, ⟨_, rfl⟩, ?_⟩
  rw [show clustersE (C ++ [(n, v)]) = clustersE C ++ [(.int .i64 n, Gl.clusterV v)] by simp [clustersE]]
  exact Mp.lay h1 h2 h3 _ _
theorem enter_clusters (w : World) (s : Nat) (C : List (Int × Gl.Cluster)) (n : Int) (v : Gl.Cluster) (h : Mp w s (clustersE C)) (hn : Gl.lookC C n = none) :
    ∃ ck w1 w2, (Instr.mapEntry 129 (.map (some s)) (.int .i64 n)).run Tryz.prog w = .ok (.tuple #[Gl.clusterV Gl.cluster0, .int .i64 ck]) w1 ∧ (Instr.entryStore 129 (.map (some s)) (.int .i64 ck) (Gl.clusterV v)).run Tryz.prog w1 = .ok () w2 ∧ (∃ o, w1 = w.putObj s o) ∧ (∃ o, w2 = w1.putObj s o) ∧ Mp w2 s (clustersE (C ++ [(n, v)])) := by
  obtain ⟨es, c, h1, h2, h3⟩ := h
  obtain ⟨f1, f2⟩ := findI_clusters n C 0
  have hf : (Instr.findKey 3 (.int .i64 n) es.toList).run Tryz.prog w = .ok (findI n (C.map (fun e => (e.1, Gl.clusterV e.2))) 0) w :=
    MapKept.run_findKey (d := .int .i64) (by kernel_rfl) (findNow_int n _ _ 0 (by rw [h2]; simp [clustersE, Function.comp_def]))
  rw [hn] at f2
  have f3 : findI n (C.map (fun e => (e.1, Gl.clusterV e.2))) 0 = none := by
    cases hq : findI n (C.map (fun e => (e.1, Gl.clusterV e.2))) 0 with
    | none => rfl
    | some x => rw [hq] at f2; simp at f2
  rw [f3] at hf
  have hlt := (Array.getElem?_eq_some_iff.1 h1).1
  have e1 := run_entry_new (P := Tryz.prog) w 129 3 75 s (.int .i64 n) (Gl.clusterV Gl.cluster0) es c Tryz.underlying129 (by kernel_rfl) h1 (fun b => MapKept.run_checkKey (d := .int .i64) (by kernel_rfl) (by simp [MapKept.IsKey]) b 9999) hf
  have e2 := run_entry_store (P := Tryz.prog) (w.putObj s (.map (es.push { key := .int .i64 n, val := Gl.clusterV Gl.cluster0, born := c }) (c + 1))) 129 s (.int .i64 n) (Gl.clusterV Gl.cluster0) (Gl.clusterV v) es c (by simp [World.putObj, hlt]) h3.1
  refine ⟨_, _, _, e1, e2, ⟨_, rfl⟩, ⟨_, rfl⟩, es.push { key := .int .i64 n, val := Gl.clusterV v, born := c }, c + 1, by simp [World.putObj, hlt], by simp [clustersE, h2], h3.push _ rfl⟩
theorem enter_places (w : World) (t : Nat) (A : List (Int × List UInt8 × Int)) (n : Int) (k : List UInt8) (v : Int) (h : Mp w t (placesE A)) (hn : Gl.findA n k A = none) :
    ∃ ck w1 w2, (Instr.mapEntry 130 (.map (some t)) (placeV n k)).run Tryz.prog w = .ok (.tuple #[.int .i64 0, .int .i64 ck]) w1 ∧ (Instr.entryStore 130 (.map (some t)) (.int .i64 ck) (.int .i64 v)).run Tryz.prog w1 = .ok () w2 ∧ (∃ o, w1 = w.putObj t o) ∧ (∃ o, w2 = w1.putObj t o) ∧ Mp w2 t (placesE (A ++ [(n, k, v)])) := by
  obtain ⟨es, c, h1, h2, h3⟩ := h
  obtain ⟨f1, f2⟩ := findPlace_A n k A 0
  have hf := run_find_place w n k A es.toList h2
  rw [hn] at f2
  have f3 : findPlace n k A 0 = none := by
    cases hq : findPlace n k A 0 with
    | none => rfl
    | some x => rw [hq] at f2; simp at f2
  rw [f3] at hf
  have hlt := (Array.getElem?_eq_some_iff.1 h1).1
  have e1 := run_entry_new (P := Tryz.prog) w 130 149 3 t (placeV n k) (.int .i64 0) es c Tryz.underlying130 (by kernel_rfl) h1 (run_place_check w n k) hf
  have e2 := run_entry_store (P := Tryz.prog) (w.putObj t (.map (es.push { key := placeV n k, val := .int .i64 0, born := c }) (c + 1))) 130 t (placeV n k) (.int .i64 0) (.int .i64 v) es c (by simp [World.putObj, hlt]) h3.1
  refine ⟨_, _, _, e1, e2, ⟨_, rfl⟩, ⟨_, rfl⟩, es.push { key := placeV n k, val := .int .i64 v, born := c }, c + 1, by simp [World.putObj, hlt], by simp [placesE, h2], h3.push _ rfl⟩
attribute [local irreducible] Calls
set_option maxHeartbeats 4000000 in
set_option maxRecDepth 100000 in
theorem groups_cluster_none (w : World) (g r s t : Nat) (most lg ln n : Int) (o : Gl.Origin) (v : Value) (S : List (List UInt8)) (G : List (Int × Bool)) (C : List (Int × Gl.Cluster)) (A : List (Int × List UInt8 × Int)) (h : GSt w g r s t most lg ln G C A) (hv : Sufs w v S) (hn : Gl.lookB G n = none) :
    Calls Tryz.prog 45 #[.pointer (some ⟨g, 0, none⟩), .int .i64 n, (Value.agg #[(Value.bool (o).opaq), (Value.int .i64 (o).id), (Value.string ⟨((o).scheme).toArray⟩), (Value.string ⟨(((o).host).name).toArray⟩), (Value.bool ((o).host).v4), (Value.int .u32 (((o).host).addr : Int)), (Value.int .i64 (o).port)]), v] w (Ret w (.tuple #[(.agg #[.int .i64 0, .int .i64 0, .string ⟨#[]⟩, .bool false]), .int .i64 170])) := by
  have hi := fun (W : World) (hW : Below w.heap.size w W) => groups_isolated W g r s t most lg ln n G C A (h.below hW)
  unfold Gl.isolated at hi
  rw [hn] at hi
  obtain ⟨vA, vc, rfl, _, _, _⟩ := hv.strs
  have hlt := h.blk.lt
  go_enter Tryz.func45, Tryz.ntmps45
  go_wp2_with (go_at_call 37; refine (hi _ (bw_)).mono ?_; rintro e w1 ⟨rfl, hb⟩; obtain ⟨hc, hfz⟩ := bcell hb; have hz := hb.size; (try simp at hz); (try have hz0 := lt_ hb w.heap.size); (try have hz1 := lt_ hb (w.heap.size + 1)); (try have hz2 := lt_ hb (w.heap.size + 2)); (try have hz3 := lt_ hb (w.heap.size + 3)); (try have hcA := fun o => hc w.heap.size o sz_); (try have hcB := fun o => hc (w.heap.size + 1) o sz_); (try (have i := cf_ hb g; obtain ⟨hcGg, hfGg, hzGg⟩ := i)))
  refine bodyPost_ret (v := (.tuple #[(.agg #[.int .i64 0, .int .i64 0, .string ⟨#[]⟩, .bool false]), .int .i64 170])) (by simp only [results, Tryz.results45]; go_simp) rfl ?_
  exact ⟨rfl, bw_⟩
set_option maxHeartbeats 4000000 in
set_option maxRecDepth 100000 in
theorem groups_cluster_old (w : World) (g r s t : Nat) (most lg ln n : Int) (o : Gl.Origin) (v : Value) (S : List (List UInt8)) (G : List (Int × Bool)) (C : List (Int × Gl.Cluster)) (A : List (Int × List UInt8 × Int)) (h : GSt w g r s t most lg ln G C A) (hv : Sufs w v S) (iso : Bool) (hn : Gl.lookB G n = some iso)
    (hE : Env w) (ho : OWide o) (hid : -9223372036854775808 ≤ o.id ∧ o.id ≤ 9223372036854775807) (i : Int) (hk : Gl.findA n (Gl.keyOf o iso S) A = some i) :
    Calls Tryz.prog 45 #[.pointer (some ⟨g, 0, none⟩), .int .i64 n, (Value.agg #[(Value.bool (o).opaq), (Value.int .i64 (o).id), (Value.string ⟨((o).scheme).toArray⟩), (Value.string ⟨(((o).host).name).toArray⟩), (Value.bool ((o).host).v4), (Value.int .u32 (((o).host).addr : Int)), (Value.int .i64 (o).port)]), v] w (Ret w (.tuple #[(.agg #[.int .i64 ((Gl.lookC C i).getD Gl.cluster0).id, .int .i64 ((Gl.lookC C i).getD Gl.cluster0).grp, .string ⟨((Gl.lookC C i).getD Gl.cluster0).key.toArray⟩, .bool ((Gl.lookC C i).getD Gl.cluster0).iso]), .int .i64 0])) := by
  have hi := fun (W : World) (hW : Below w.heap.size w W) => groups_isolated W g r s t most lg ln n G C A (h.below hW)
  unfold Gl.isolated at hi
  rw [hn] at hi
  have hky := fun (W : World) (hW : Below w.heap.size w W) => groups_key o iso v S W (hE.below hW) ho hid (hv.below hW)
  generalize Gl.keyOf o iso S = key at *
  obtain ⟨vA, vc, rfl, _, _, _⟩ := hv.strs
  have hlt := h.blk.lt
  have hc := h.blk.cell
  replace hi := Lib.hid hi
  replace hky := Lib.hid hky
  go_enter Tryz.func45, Tryz.ntmps45
  go_wp2_with fail
  generalize hW0 : ((w.alloc (Obj.cells #[(Value.bool (o).opaq), (Value.int .i64 (o).id), (Value.string ⟨((o).scheme).toArray⟩), (Value.string ⟨(((o).host).name).toArray⟩), (Value.bool ((o).host).v4), (Value.int .u32 (((o).host).addr : Int)), (Value.int .i64 (o).port)] 35)).alloc (Obj.cells #[.int .i64 0, .int .i64 0, .string ⟨#[]⟩, .bool false] 75)) = W0
  have hw0 : Below w.heap.size w W0 := by rw [← hW0]; (exact bw_)
  have hO : Blk W0 w.heap.size 35 #[(Value.bool (o).opaq), (Value.int .i64 (o).id), (Value.string ⟨((o).scheme).toArray⟩), (Value.string ⟨(((o).host).name).toArray⟩), (Value.bool ((o).host).v4), (Value.int .u32 (((o).host).addr : Int)), (Value.int .i64 (o).port)] := by rw [← hW0]; exact (Blk.new _ _ _).alloc _
  have hR0 : Blk W0 (w.heap.size + 1) 75 #[.int .i64 0, .int .i64 0, .string ⟨#[]⟩, .bool false] := by
    rw [← hW0]
    have := Blk.new (w.alloc (Obj.cells #[(Value.bool (o).opaq), (Value.int .i64 (o).id), (Value.string ⟨((o).scheme).toArray⟩), (Value.string ⟨(((o).host).name).toArray⟩), (Value.bool ((o).host).v4), (Value.int .u32 (((o).host).addr : Int)), (Value.int .i64 (o).port)] 35)) 75 #[.int .i64 0, .int .i64 0, .string ⟨#[]⟩, .bool false]
    rwa [show (w.alloc (Obj.cells #[(Value.bool (o).opaq), (Value.int .i64 (o).id), (Value.string ⟨((o).scheme).toArray⟩), (Value.string ⟨(((o).host).name).toArray⟩), (Value.bool ((o).host).v4), (Value.int .u32 (((o).host).addr : Int)), (Value.int .i64 (o).port)] 35)).heap.size = w.heap.size + 1 by simp] at this
  have hOl := hO.lt
  have hOc := hO.cell
  have hOf := hO.frozen
  have hRl := hR0.lt
  have hg0 := (h.below hw0).blk.cell
  clear hW0
  go_wp2_with (go_at_call 37; refine (hi.out _ (bw_)).mono ?_; rintro e w1 ⟨rfl, hb⟩; obtain ⟨hc, hfz⟩ := bcell hb; have hz := hb.size; (try simp at hz); (try have hz0 := lt_ hb w.heap.size); (try have hz1 := lt_ hb (w.heap.size + 1)); (try have hz2 := lt_ hb (w.heap.size + 2)); (try have hz3 := lt_ hb (w.heap.size + 3)); (try have hcA := fun o => hc w.heap.size o sz_); (try have hcB := fun o => hc (w.heap.size + 1) o sz_); (try (have i := cf_ hb g; obtain ⟨hcGg, hfGg, hzGg⟩ := i)))
  go_wp2_with (go_at_call 73; refine (hky.out _ (bw_)).mono ?_; rintro e w1 ⟨rfl, hb⟩; obtain ⟨hc, hfz⟩ := bcell hb; have hz := hb.size; (try simp at hz); (try have hz0 := lt_ hb w.heap.size); (try have hz1 := lt_ hb (w.heap.size + 1)); (try have hz2 := lt_ hb (w.heap.size + 2)); (try have hz3 := lt_ hb (w.heap.size + 3)); (try have hcA := fun o => hc w.heap.size o sz_); (try have hcB := fun o => hc (w.heap.size + 1) o sz_); (try (have i := cf_ hb g; obtain ⟨hcGg, hfGg, hzGg⟩ := i)))
  generalize hW2 : w1.alloc (Obj.cells #[Value.int IntKind.i64 n, Value.string { data := List.toArray key }] 149) = W2
  have hbW : Below w.heap.size w W2 := by rw [← hW2]; (exact bw_)
  have hP : Blk W2 w1.heap.size 149 #[.int .i64 n, .string ⟨key.toArray⟩] := by rw [← hW2]; exact Blk.new _ _ _
  have hR : Blk W2 (w.heap.size + 1) 75 #[.int .i64 0, .int .i64 0, .string ⟨#[]⟩, .bool false] := by rw [← hW2]; (exact bk_)
  have hg2 := h.below hbW
  have hPc := hP.cell
  have hPf := hP.frozen
  have hPl := hP.lt
  have hRc := hR.cell
  have hRf := hR.frozen
  have hR2 := hR.lt
  generalize w1.heap.size = gP at *
  have hg2c := hg2.blk.cell
  have hg2f := hg2.blk.frozen
  have hg2l := hg2.blk.lt
  have hlk : ∀ q, (Instr.lookup 130 (.map (some t)) (.agg #[.int .i64 n, .string ⟨key.toArray⟩]) true).run Tryz.prog (W2.drewN q) = .ok (.tuple #[.int .i64 ((Gl.findA n key A).getD 0), .bool (Gl.findA n key A).isSome]) (W2.drewN q) := fun q => look_places (W2.drewN q) t A n key (hg2.mt.at_ rfl)
  rw [hk] at hlk
  go_quiet (fail)
  have hl2 : ∀ q, (Instr.lookup 129 (.map (some s)) (.int .i64 i) false).run Tryz.prog (W2.drewN q) = .ok (.agg #[.int .i64 ((Gl.lookC C i).getD Gl.cluster0).id, .int .i64 ((Gl.lookC C i).getD Gl.cluster0).grp, .string ⟨((Gl.lookC C i).getD Gl.cluster0).key.toArray⟩, .bool ((Gl.lookC C i).getD Gl.cluster0).iso]) (W2.drewN q) := fun q => look_clusters (W2.drewN q) s C i (hg2.ms.at_ rfl) false
  all_goals go_wp2
  refine bodyPost_ret (v := (.tuple #[(.agg #[.int .i64 ((Gl.lookC C i).getD Gl.cluster0).id, .int .i64 ((Gl.lookC C i).getD Gl.cluster0).grp, .string ⟨((Gl.lookC C i).getD Gl.cluster0).key.toArray⟩, .bool ((Gl.lookC C i).getD Gl.cluster0).iso]), .int .i64 0])) (by simp only [results, Tryz.results45]; go_simp) rfl ?_
  exact ⟨rfl, bw_⟩
set_option maxHeartbeats 4000000 in
set_option maxRecDepth 100000 in
theorem groups_cluster_many (w : World) (g r s t : Nat) (most lg ln n : Int) (o : Gl.Origin) (v : Value) (S : List (List UInt8)) (G : List (Int × Bool)) (C : List (Int × Gl.Cluster)) (A : List (Int × List UInt8 × Int)) (h : GSt w g r s t most lg ln G C A) (hv : Sufs w v S) (iso : Bool) (hn : Gl.lookB G n = some iso)
    (hE : Env w) (ho : OWide o) (hid : -9223372036854775808 ≤ o.id ∧ o.id ≤ 9223372036854775807) (hk : Gl.findA n (Gl.keyOf o iso S) A = none) (hm : 4 * most ≤ C.length) (hm1 : 1 ≤ most) (hm2 : most ≤ 200) :
    Calls Tryz.prog 45 #[.pointer (some ⟨g, 0, none⟩), .int .i64 n, (Value.agg #[(Value.bool (o).opaq), (Value.int .i64 (o).id), (Value.string ⟨((o).scheme).toArray⟩), (Value.string ⟨(((o).host).name).toArray⟩), (Value.bool ((o).host).v4), (Value.int .u32 (((o).host).addr : Int)), (Value.int .i64 (o).port)]), v] w (Ret w (.tuple #[(.agg #[.int .i64 0, .int .i64 0, .string ⟨#[]⟩, .bool false]), .int .i64 171])) := by
  have hi := fun (W : World) (hW : Below w.heap.size w W) => groups_isolated W g r s t most lg ln n G C A (h.below hW)
  unfold Gl.isolated at hi
  rw [hn] at hi
  have hky := fun (W : World) (hW : Below w.heap.size w W) => groups_key o iso v S W (hE.below hW) ho hid (hv.below hW)
  generalize Gl.keyOf o iso S = key at *
  obtain ⟨vA, vc, rfl, _, _, _⟩ := hv.strs
  have hlt := h.blk.lt
  have hc := h.blk.cell
  replace hi := Lib.hid hi
  replace hky := Lib.hid hky
  go_enter Tryz.func45, Tryz.ntmps45
  go_wp2_with fail
  generalize hW0 : ((w.alloc (Obj.cells #[(Value.bool (o).opaq), (Value.int .i64 (o).id), (Value.string ⟨((o).scheme).toArray⟩), (Value.string ⟨(((o).host).name).toArray⟩), (Value.bool ((o).host).v4), (Value.int .u32 (((o).host).addr : Int)), (Value.int .i64 (o).port)] 35)).alloc (Obj.cells #[.int .i64 0, .int .i64 0, .string ⟨#[]⟩, .bool false] 75)) = W0
  have hw0 : Below w.heap.size w W0 := by rw [← hW0]; (exact bw_)
  have hO : Blk W0 w.heap.size 35 #[(Value.bool (o).opaq), (Value.int .i64 (o).id), (Value.string ⟨((o).scheme).toArray⟩), (Value.string ⟨(((o).host).name).toArray⟩), (Value.bool ((o).host).v4), (Value.int .u32 (((o).host).addr : Int)), (Value.int .i64 (o).port)] := by rw [← hW0]; exact (Blk.new _ _ _).alloc _
  have hR0 : Blk W0 (w.heap.size + 1) 75 #[.int .i64 0, .int .i64 0, .string ⟨#[]⟩, .bool false] := by
    rw [← hW0]
    have := Blk.new (w.alloc (Obj.cells #[(Value.bool (o).opaq), (Value.int .i64 (o).id), (Value.string ⟨((o).scheme).toArray⟩), (Value.string ⟨(((o).host).name).toArray⟩), (Value.bool ((o).host).v4), (Value.int .u32 (((o).host).addr : Int)), (Value.int .i64 (o).port)] 35)) 75 #[.int .i64 0, .int .i64 0, .string ⟨#[]⟩, .bool false]
    rwa [show (w.alloc (Obj.cells #[(Value.bool (o).opaq), (Value.int .i64 (o).id), (Value.string ⟨((o).scheme).toArray⟩), (Value.string ⟨(((o).host).name).toArray⟩), (Value.bool ((o).host).v4), (Value.int .u32 (((o).host).addr : Int)), (Value.int .i64 (o).port)] 35)).heap.size = w.heap.size + 1 by simp] at this
  have hOl := hO.lt
  have hOc := hO.cell
  have hOf := hO.frozen
  have hRl := hR0.lt
  have hg0 := (h.below hw0).blk.cell
  clear hW0
  go_wp2_with (go_at_call 37; refine (hi.out _ (bw_)).mono ?_; rintro e w1 ⟨rfl, hb⟩; obtain ⟨hc, hfz⟩ := bcell hb; have hz := hb.size; (try simp at hz); (try have hz0 := lt_ hb w.heap.size); (try have hz1 := lt_ hb (w.heap.size + 1)); (try have hz2 := lt_ hb (w.heap.size + 2)); (try have hz3 := lt_ hb (w.heap.size + 3)); (try have hcA := fun o => hc w.heap.size o sz_); (try have hcB := fun o => hc (w.heap.size + 1) o sz_); (try (have i := cf_ hb g; obtain ⟨hcGg, hfGg, hzGg⟩ := i)))
  go_wp2_with (go_at_call 73; refine (hky.out _ (bw_)).mono ?_; rintro e w1 ⟨rfl, hb⟩; obtain ⟨hc, hfz⟩ := bcell hb; have hz := hb.size; (try simp at hz); (try have hz0 := lt_ hb w.heap.size); (try have hz1 := lt_ hb (w.heap.size + 1)); (try have hz2 := lt_ hb (w.heap.size + 2)); (try have hz3 := lt_ hb (w.heap.size + 3)); (try have hcA := fun o => hc w.heap.size o sz_); (try have hcB := fun o => hc (w.heap.size + 1) o sz_); (try (have i := cf_ hb g; obtain ⟨hcGg, hfGg, hzGg⟩ := i)))
  generalize hW2 : w1.alloc (Obj.cells #[Value.int IntKind.i64 n, Value.string { data := List.toArray key }] 149) = W2
  have hbW : Below w.heap.size w W2 := by rw [← hW2]; (exact bw_)
  have hP : Blk W2 w1.heap.size 149 #[.int .i64 n, .string ⟨key.toArray⟩] := by rw [← hW2]; exact Blk.new _ _ _
  have hR : Blk W2 (w.heap.size + 1) 75 #[.int .i64 0, .int .i64 0, .string ⟨#[]⟩, .bool false] := by rw [← hW2]; (exact bk_)
  have hg2 := h.below hbW
  have hPc := hP.cell
  have hPf := hP.frozen
  have hPl := hP.lt
  have hRc := hR.cell
  have hRf := hR.frozen
  have hR2 := hR.lt
  generalize w1.heap.size = gP at *
  have hg2c := hg2.blk.cell
  have hg2f := hg2.blk.frozen
  have hg2l := hg2.blk.lt
  have hlk : ∀ q, (Instr.lookup 130 (.map (some t)) (.agg #[.int .i64 n, .string ⟨key.toArray⟩]) true).run Tryz.prog (W2.drewN q) = .ok (.tuple #[.int .i64 ((Gl.findA n key A).getD 0), .bool (Gl.findA n key A).isSome]) (W2.drewN q) := fun q => look_places (W2.drewN q) t A n key (hg2.mt.at_ rfl)
  rw [hk] at hlk
  go_quiet (fail)
  all_goals (go_wp2_with fail)
  have hg3 := hg2.below (below_drewN (Below.refl W2.heap.size W2) nq)
  have hb3 : Below w.heap.size w (W2.drewN nq) := bw_
  have hR3 := hR.drewN nq
  have hP3 := hP.drewN nq
  clear hR hRc hRf hR2 hP hPc hPf hPl hg2c hg2f hg2l hlk hg2
  generalize W2.drewN nq = W3 at *
  clear nq
  have hg3c := hg3.blk.cell
  have hg3f := hg3.blk.frozen
  have hg3l := hg3.blk.lt
  have hRc := hR3.cell
  have hRf := hR3.frozen
  have hRl3 := hR3.lt
  have hPc := hP3.cell
  have hPf := hP3.frozen
  have hPl := hP3.lt
  have hlen := fun n => len_map Tryz.underlying129 (W3.drewN n) s _ (hg3.ms.at_ rfl)
  rw [show (clustersE C).length = C.length by simp [clustersE]] at hlen
  generalize hN : C.length = N at *
  have hw4 : IntKind.i64.wrap (4 * most) = 4 * most := by rw [IntKind.wrap_i64]; omega
  go_quiet (fail)
  all_goals go_wp2
  refine bodyPost_ret (v := (.tuple #[(.agg #[.int .i64 0, .int .i64 0, .string ⟨#[]⟩, .bool false]), .int .i64 171])) (by simp only [results, Tryz.results45]; go_simp) rfl ?_
  exact ⟨rfl, bw_⟩
set_option maxHeartbeats 4000000 in
set_option maxRecDepth 100000 in
theorem groups_cluster_new (w : World) (g r s t : Nat) (most lg ln n : Int) (o : Gl.Origin) (v : Value) (S : List (List UInt8)) (G : List (Int × Bool)) (C : List (Int × Gl.Cluster)) (A : List (Int × List UInt8 × Int)) (h : GSt w g r s t most lg ln G C A) (hv : Sufs w v S) (iso : Bool) (hn : Gl.lookB G n = some iso)
    (hE : Env w) (ho : OWide o) (hid : -9223372036854775808 ≤ o.id ∧ o.id ≤ 9223372036854775807) (hk : Gl.findA n (Gl.keyOf o iso S) A = none) (hm : (C.length : Int) < 4 * most) (hm1 : 1 ≤ most) (hm2 : most ≤ 200) (hl0 : 0 ≤ ln) (hl1 : ln < 1000000000) (hC : ∀ e ∈ C, e.1 ≤ ln) :
    Calls Tryz.prog 45 #[.pointer (some ⟨g, 0, none⟩), .int .i64 n, (Value.agg #[(Value.bool (o).opaq), (Value.int .i64 (o).id), (Value.string ⟨((o).scheme).toArray⟩), (Value.string ⟨(((o).host).name).toArray⟩), (Value.bool ((o).host).v4), (Value.int .u32 (((o).host).addr : Int)), (Value.int .i64 (o).port)]), v] w (fun e w' => (e = .returned (.tuple #[.agg #[.int .i64 (ln + 1), .int .i64 n, (Value.string ⟨(Gl.keyOf o iso S).toArray⟩), .bool iso], .int .i64 0]) ∧ But [r, s, t, g] w w') ∧ GSt w' g r s t most lg (ln + 1) G (C ++ [(ln + 1, ⟨ln + 1, n, Gl.keyOf o iso S, iso⟩)]) (A ++ [(n, Gl.keyOf o iso S, ln + 1)])) := by
  have hi := fun (W : World) (hW : Below w.heap.size w W) => groups_isolated W g r s t most lg ln n G C A (h.below hW)
  unfold Gl.isolated at hi
  rw [hn] at hi
  have hky := fun (W : World) (hW : Below w.heap.size w W) => groups_key o iso v S W (hE.below hW) ho hid (hv.below hW)
  generalize Gl.keyOf o iso S = key at *
  obtain ⟨vA, vc, rfl, _, _, _⟩ := hv.strs
  have hlt := h.blk.lt
  have hc := h.blk.cell
  replace hi := Lib.hid hi
  replace hky := Lib.hid hky
  go_enter Tryz.func45, Tryz.ntmps45
  go_wp2_with fail
  generalize hW0 : ((w.alloc (Obj.cells #[(Value.bool (o).opaq), (Value.int .i64 (o).id), (Value.string ⟨((o).scheme).toArray⟩), (Value.string ⟨(((o).host).name).toArray⟩), (Value.bool ((o).host).v4), (Value.int .u32 (((o).host).addr : Int)), (Value.int .i64 (o).port)] 35)).alloc (Obj.cells #[.int .i64 0, .int .i64 0, .string ⟨#[]⟩, .bool false] 75)) = W0
  have hw0 : Below w.heap.size w W0 := by rw [← hW0]; (exact bw_)
  have hO : Blk W0 w.heap.size 35 #[(Value.bool (o).opaq), (Value.int .i64 (o).id), (Value.string ⟨((o).scheme).toArray⟩), (Value.string ⟨(((o).host).name).toArray⟩), (Value.bool ((o).host).v4), (Value.int .u32 (((o).host).addr : Int)), (Value.int .i64 (o).port)] := by rw [← hW0]; exact (Blk.new _ _ _).alloc _
  have hR0 : Blk W0 (w.heap.size + 1) 75 #[.int .i64 0, .int .i64 0, .string ⟨#[]⟩, .bool false] := by
    rw [← hW0]
    have := Blk.new (w.alloc (Obj.cells #[(Value.bool (o).opaq), (Value.int .i64 (o).id), (Value.string ⟨((o).scheme).toArray⟩), (Value.string ⟨(((o).host).name).toArray⟩), (Value.bool ((o).host).v4), (Value.int .u32 (((o).host).addr : Int)), (Value.int .i64 (o).port)] 35)) 75 #[.int .i64 0, .int .i64 0, .string ⟨#[]⟩, .bool false]
    rwa [show (w.alloc (Obj.cells #[(Value.bool (o).opaq), (Value.int .i64 (o).id), (Value.string ⟨((o).scheme).toArray⟩), (Value.string ⟨(((o).host).name).toArray⟩), (Value.bool ((o).host).v4), (Value.int .u32 (((o).host).addr : Int)), (Value.int .i64 (o).port)] 35)).heap.size = w.heap.size + 1 by simp] at this
  have hOl := hO.lt
  have hOc := hO.cell
  have hOf := hO.frozen
  have hRl := hR0.lt
  have hg0 := (h.below hw0).blk.cell
  clear hW0
  go_wp2_with (go_at_call 37; refine (hi.out _ (bw_)).mono ?_; rintro e w1 ⟨rfl, hb⟩; obtain ⟨hc, hfz⟩ := bcell hb; have hz := hb.size; (try simp at hz); (try have hz0 := lt_ hb w.heap.size); (try have hz1 := lt_ hb (w.heap.size + 1)); (try have hz2 := lt_ hb (w.heap.size + 2)); (try have hz3 := lt_ hb (w.heap.size + 3)); (try have hcA := fun o => hc w.heap.size o sz_); (try have hcB := fun o => hc (w.heap.size + 1) o sz_); (try (have i := cf_ hb g; obtain ⟨hcGg, hfGg, hzGg⟩ := i)))
  go_wp2_with (go_at_call 73; refine (hky.out _ (bw_)).mono ?_; rintro e w1 ⟨rfl, hb⟩; obtain ⟨hc, hfz⟩ := bcell hb; have hz := hb.size; (try simp at hz); (try have hz0 := lt_ hb w.heap.size); (try have hz1 := lt_ hb (w.heap.size + 1)); (try have hz2 := lt_ hb (w.heap.size + 2)); (try have hz3 := lt_ hb (w.heap.size + 3)); (try have hcA := fun o => hc w.heap.size o sz_); (try have hcB := fun o => hc (w.heap.size + 1) o sz_); (try (have i := cf_ hb g; obtain ⟨hcGg, hfGg, hzGg⟩ := i)))
  generalize hW2 : w1.alloc (Obj.cells #[Value.int IntKind.i64 n, Value.string { data := List.toArray key }] 149) = W2
  have hbW : Below w.heap.size w W2 := by rw [← hW2]; (exact bw_)
  have hP : Blk W2 w1.heap.size 149 #[.int .i64 n, .string ⟨key.toArray⟩] := by rw [← hW2]; exact Blk.new _ _ _
  have hR : Blk W2 (w.heap.size + 1) 75 #[.int .i64 0, .int .i64 0, .string ⟨#[]⟩, .bool false] := by rw [← hW2]; (exact bk_)
  have hg2 := h.below hbW
  have hPc := hP.cell
  have hPf := hP.frozen
  have hPl := hP.lt
  have hRc := hR.cell
  have hRf := hR.frozen
  have hR2 := hR.lt
  generalize w1.heap.size = gP at *
  have hg2c := hg2.blk.cell
  have hg2f := hg2.blk.frozen
  have hg2l := hg2.blk.lt
  have hlk : ∀ q, (Instr.lookup 130 (.map (some t)) (.agg #[.int .i64 n, .string ⟨key.toArray⟩]) true).run Tryz.prog (W2.drewN q) = .ok (.tuple #[.int .i64 ((Gl.findA n key A).getD 0), .bool (Gl.findA n key A).isSome]) (W2.drewN q) := fun q => look_places (W2.drewN q) t A n key (hg2.mt.at_ rfl)
  rw [hk] at hlk
  go_quiet (fail)
  all_goals (go_wp2_with fail)
  have hg3 := hg2.below (below_drewN (Below.refl W2.heap.size W2) nq)
  have hb3 : Below w.heap.size w (W2.drewN nq) := bw_
  have hR3 := hR.drewN nq
  have hP3 := hP.drewN nq
  clear hR hRc hRf hR2 hP hPc hPf hPl hg2c hg2f hg2l hlk hg2
  generalize W2.drewN nq = W3 at *
  clear nq
  have hg3c := hg3.blk.cell
  have hg3f := hg3.blk.frozen
  have hg3l := hg3.blk.lt
  have hRc := hR3.cell
  have hRf := hR3.frozen
  have hRl3 := hR3.lt
  have hPc := hP3.cell
  have hPf := hP3.frozen
  have hPl := hP3.lt
  have hlen := fun n => len_map Tryz.underlying129 (W3.drewN n) s _ (hg3.ms.at_ rfl)
  rw [show (clustersE C).length = C.length by simp [clustersE]] at hlen
  generalize hN : C.length = N at *
  have hw4 : IntKind.i64.wrap (4 * most) = 4 * most := by rw [IntKind.wrap_i64]; omega
  go_quiet (fail)
  all_goals (go_wp2_with fail)
  have hg4 := hg3.below (below_drewN (Below.refl W3.heap.size W3) nq)
  have hb4 : Below w.heap.size w (W3.drewN nq) := bw_
  have hR4 := hR3.drewN nq
  have hP4 := hP3.drewN nq
  clear hR3 hRc hRf hRl3 hP3 hPc hPf hPl hg3c hg3f hg3l hlen hg3
  generalize W3.drewN nq = W4 at *
  clear nq hO hR0 hOl hOc hOf hRl hg0 hcA hcB hcGg hfGg hi hky
  have hg4b := hg4.blk
  have hg4c := hg4.blk.cell
  have hg4f := hg4.blk.frozen
  have hg4l := hg4.blk.lt
  have hRc := hR4.cell
  have hRf := hR4.frozen
  have hRl4 := hR4.lt
  have hPc := hP4.cell
  have hPf := hP4.frozen
  have hPl := hP4.lt
  have hadd := fun (W : World) (hW : Blk W g 137 #[.int .i64 most, .int .i64 lg, .int .i64 ln, .map (some r), .map (some s), .map (some t)]) => atomic_add g 2 ln W ((hW.cell 2).trans rfl) (hW.frozen 2) hl0 hl1
  replace hadd := Lib.hid hadd
  have hne : gP ≠ g := by omega
  have hne2 : ¬ (g = gP) := by omega
  go_region_held3 (fun W => gP < W.heap.size ∧ (∀ n0, W.cell? ⟨gP, n0, none⟩ = (#[.int .i64 n, .string ⟨key.toArray⟩] : Array Value)[n0]?))
    ((refine ⟨Blk.lt (t := 149) (cs := #[.int .i64 n, .string ⟨key.toArray⟩]) (bks_), fun n0 => Blk.cell (t := 149) (cs := #[.int .i64 n, .string ⟨key.toArray⟩]) (bks_) n0⟩))
    ((go_at_call 80; refine (hadd.out _ (bk_)).mono ?_; rintro e w5 ⟨rfl, rfl⟩))
  all_goals (
    generalize hW5 : ((W4.setCell ⟨g, 2, none⟩ (Value.int IntKind.i64 (ln + 1))).alloc (Obj.cells #[.int .i64 (ln + 1), .int .i64 n, (Value.string ⟨(key).toArray⟩), .bool iso] 75)).drew = W5
    have k1 := hg4.rs
    have k2 := hg4.st
    have k3 := hg4.tg
    have e4 : (W4.setCell ⟨g, 2, none⟩ (Value.int IntKind.i64 (ln + 1))).heap.size = W4.heap.size := by simp
    have hb5 : But [r, s, t, g] w W5 := by
      rw [← hW5]
      exact ((But.ofBelow hb4).setCell (p := ⟨g, 2, none⟩) (by simp) _).trans (But.ofBelow (bw_))
    have hB5 : Blk W5 g 137 #[.int .i64 most, .int .i64 lg, .int .i64 (ln + 1), .map (some r), .map (some s), .map (some t)] := by rw [← hW5]; exact Blk.drew_ ((hg4b.set_ 2 _).alloc _)
    have hC5 : Blk W5 W4.heap.size 75 #[.int .i64 (ln + 1), .int .i64 n, (Value.string ⟨(key).toArray⟩), .bool iso] := by
      rw [← hW5]
      refine Blk.drew_ ?_
      have := Blk.new (W4.setCell ⟨g, 2, none⟩ (Value.int IntKind.i64 (ln + 1))) 75 #[.int .i64 (ln + 1), .int .i64 n, (Value.string ⟨(key).toArray⟩), .bool iso]
      rwa [e4] at this
    have hR5 : Blk W5 (w.heap.size + 1) 75 #[.int .i64 0, .int .i64 0, .string ⟨#[]⟩, .bool false] := by rw [← hW5]; exact Blk.drew_ ((hR4.far (p := ⟨g, 2, none⟩) (by simp; omega) _).alloc _)
    have hP5 : Blk W5 gP 149 #[.int .i64 n, .string ⟨key.toArray⟩] := by rw [← hW5]; exact Blk.drew_ ((hP4.far (p := ⟨g, 2, none⟩) (by simp; omega) _).alloc _)
    have hr5 : Mp W5 r (groupsE G) := by rw [← hW5]; exact ((hg4.mr.far (p := ⟨g, 2, none⟩) (by simp; omega) _).alloc _).at_ rfl
    have hs5 : Mp W5 s (clustersE C) := by rw [← hW5]; exact ((hg4.ms.far (p := ⟨g, 2, none⟩) (by simp; omega) _).alloc _).at_ rfl
    have ht5 : Mp W5 t (placesE A) := by rw [← hW5]; exact ((hg4.mt.far (p := ⟨g, 2, none⟩) (by simp; omega) _).alloc _).at_ rfl
    have q4 : w.heap.size + 1 < W4.heap.size := hRl4
    have q5 : gP < W4.heap.size := hPl
    clear hW5 hg4b hg4c hg4f hRc hRf hPc hPf hg4 hR4 hP4 hadd
    generalize W4.heap.size = gN at *
    have cB := hB5.cell
    have cC := hC5.cell
    have cR := hR5.cell
    have cP := hP5.cell
    have fB := hB5.frozen
    have fC := hC5.frozen
    have fR := hR5.frozen
    have fP := hP5.frozen
    obtain ⟨ck1, A1, A2, E1, S1, ⟨o1, z1⟩, ⟨o2, z2⟩, M1⟩ := enter_clusters W5.drew s C (ln + 1) ⟨ln + 1, n, key, iso⟩ (hs5.at_ rfl) (lookC_none C _ (fun e he => by have := hC e he; omega))
    have ht7 : Mp A2 t (placesE A) := by rw [z2, z1]; exact ((ht5.at_ (w' := W5.drew) rfl).putObj (by omega) _).putObj (by omega) _
    obtain ⟨ck2, A3, A4, E2, S2, ⟨o3, z3⟩, ⟨o4, z4⟩, M2⟩ := enter_places A2 t A n key (ln + 1) ht7 hk
    replace E1 : (Instr.mapEntry 129 (.map (some s)) (.int .i64 (ln + 1))).run Tryz.prog W5.drew = .ok (.tuple #[.agg #[.int .i64 0, .int .i64 0, .string ⟨#[]⟩, .bool false], .int .i64 ck1]) A1 := E1
    replace S1 : (Instr.entryStore 129 (.map (some s)) (.int .i64 ck1) (.agg #[.int .i64 (ln + 1), .int .i64 n, (Value.string ⟨(key).toArray⟩), .bool iso])).run Tryz.prog A1 = .ok () A2 := S1
    replace E2 : (Instr.mapEntry 130 (.map (some t)) (.agg #[.int .i64 n, (Value.string ⟨(key).toArray⟩)])).run Tryz.prog A2 = .ok (.tuple #[.int .i64 0, .int .i64 ck2]) A3 := E2
    have bg1 := (hB5.drew_).putObj (r := s) (by omega) o1
    rw [← z1] at bg1
    have bg2 := bg1.putObj (r := s) (by omega) o2
    rw [← z2] at bg2
    have bg3 := bg2.putObj (r := t) (by omega) o3
    rw [← z3] at bg3
    have bg4 := bg3.putObj (r := t) (by omega) o4
    rw [← z4] at bg4
    have bp1 := (hP5.drew_).putObj (r := s) (by omega) o1
    rw [← z1] at bp1
    have bp2 := bp1.putObj (r := s) (by omega) o2
    rw [← z2] at bp2
    have bp3 := bp2.putObj (r := t) (by omega) o3
    rw [← z3] at bp3
    have bp4 := bp3.putObj (r := t) (by omega) o4
    rw [← z4] at bp4
    have bn1 := (hC5.drew_).putObj (r := s) (by omega) o1
    rw [← z1] at bn1
    have bn2 := bn1.putObj (r := s) (by omega) o2
    rw [← z2] at bn2
    have bn3 := bn2.putObj (r := t) (by omega) o3
    rw [← z3] at bn3
    have bn4 := bn3.putObj (r := t) (by omega) o4
    rw [← z4] at bn4
    have br1 := (hR5.drew_).putObj (r := s) (by omega) o1
    rw [← z1] at br1
    have br2 := br1.putObj (r := s) (by omega) o2
    rw [← z2] at br2
    have br3 := br2.putObj (r := t) (by omega) o3
    rw [← z3] at br3
    have br4 := br3.putObj (r := t) (by omega) o4
    rw [← z4] at br4
    have hb6 : But [r, s, t, g] w A4 := by
      rw [z4, z3, z2, z1]
      exact ((((hb5.trans (But.ofBelow (bw_))).putObj (by simp) _).putObj (by simp) _).putObj (by simp) _).putObj (by simp) _
    have hr6 : Mp A4 r (groupsE G) := by
      rw [z4, z3, z2, z1]
      exact ((((hr5.at_ (w' := W5.drew) rfl).putObj (by omega) _).putObj (by omega) _).putObj (by omega) _).putObj (by omega) _
    have hs6 : Mp A4 s (clustersE (C ++ [(ln + 1, ⟨ln + 1, n, key, iso⟩)])) := by
      rw [z4, z3]
      exact (M1.putObj (by omega) _).putObj (by omega) _
    have hl6 : W5.heap.size = A4.heap.size := by rw [z4, z3, z2, z1]; simp [World.putObj]
    clear z1 z2 z3 z4 ht7 M1
    have lA4 := br4.cell
    have fA4 := br4.frozen
    have cA4 := bn4.cell
    have dA4 := bn4.frozen
    go_wp2_with fail)
  all_goals (go_region_held3 (fun W => (∀ n0, W.cell? ⟨g, n0, none⟩ = (#[.int .i64 most, .int .i64 lg, .int .i64 (ln + 1), .map (some r), .map (some s), .map (some t)] : Array Value)[n0]?) ∧ (∀ n0, W.cell? ⟨gP, n0, none⟩ = (#[.int .i64 n, .string ⟨key.toArray⟩] : Array Value)[n0]?) ∧ (∀ n0, W.cell? ⟨gN, n0, none⟩ = (#[.int .i64 (ln + 1), .int .i64 n, (Value.string ⟨(key).toArray⟩), .bool iso] : Array Value)[n0]?)) ((refine ⟨fun n0 => Blk.cell (t := 137) (cs := #[.int .i64 most, .int .i64 lg, .int .i64 (ln + 1), .map (some r), .map (some s), .map (some t)]) (bks_) n0, fun n0 => Blk.cell (t := 149) (cs := #[.int .i64 n, .string ⟨key.toArray⟩]) (bks_) n0, fun n0 => Blk.cell (t := 75) (cs := #[.int .i64 (ln + 1), .int .i64 n, (Value.string ⟨(key).toArray⟩), .bool iso]) (bks_) n0⟩)) (fail))
  all_goals (go_wp2_with fail)
  all_goals refine bodyPost_ret (v := (.tuple #[.agg #[.int .i64 (ln + 1), .int .i64 n, .string ⟨key.toArray⟩, .bool iso], .int .i64 0])) (by simp only [results, Tryz.results45]; go_simp) rfl ?_
  all_goals refine ⟨⟨rfl, (((hb6.setNew (by simp) _).setNew (by simp) _).setNew (by simp) _).setNew (by simp) _⟩, ?_, ?_, ?_, ?_, k1, k2, k3⟩
  all_goals first
    | exact (((bg4.far (by simp; omega) _).far (by simp; omega) _).far (by simp; omega) _).far (by simp; omega) _
    | exact (((hr6.far (by simp; omega) _).far (by simp; omega) _).far (by simp; omega) _).far (by simp; omega) _
    | exact (((hs6.far (by simp; omega) _).far (by simp; omega) _).far (by simp; omega) _).far (by simp; omega) _
    | exact (((M2.far (by simp; omega) _).far (by simp; omega) _).far (by simp; omega) _).far (by simp; omega) _
end Go.Proofs.YtbafofldgkigmaaGreatDoor
