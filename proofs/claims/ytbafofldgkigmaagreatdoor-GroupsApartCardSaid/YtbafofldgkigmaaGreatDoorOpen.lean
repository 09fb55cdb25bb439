/- groups: Isolated, Open. -/
import Derived.Test.YtbafofldgkigmaaGreatDoorGroups
namespace Go.Proofs.YtbafofldgkigmaaGreatDoor
open Go.RowKit
namespace Gl
def lookB : List (Int × Bool) → Int → Option Bool
  | [], _ => none
  | (a, b) :: r, n => if n = a then some b else lookB r n
def isolated (G : List (Int × Bool)) (n : Int) : Bool × Int := match lookB G n with | none => (false, 170) | some b => (b, 0)
end Gl
/-- What is found of a number. -/
def findI (n : Int) : List (Int × Value) → Nat → Option (Nat × Value)
  | [], _ => none
  | (a, v) :: r, i => if n = a then some (i, v) else findI n r (i + 1)
theorem findNow_int (n : Int) (L : List (Int × Value)) (es : List MapEntry) (i : Nat) (h : es.map (fun e => (e.key, e.val)) = L.map (fun e => (Value.int .i64 e.1, e.2))) : Instr.findNow (.int .i64) (.int .i64 n) es i = some (findI n L i) := by
  induction L generalizing es i with
  | nil => cases es with
    | nil => rfl
    | cons a b => simp at h
  | cons a r ih =>
    cases es with
    | nil => simp at h
    | cons e es =>
      simp only [List.map_cons, List.cons.injEq, Prod.mk.injEq] at h
      obtain ⟨⟨h1, h2⟩, h3⟩ := h
      obtain ⟨x, v⟩ := a
      unfold Instr.findNow findI
      simp only [h1, Instr.sameNow]
      by_cases q : n = x
      · simp [q, h2]
      · have : (n == x) = false := by simp [q]
        simp [this, q, ih es (i + 1) h3]
theorem findI_groups (n : Int) (G : List (Int × Bool)) (i : Nat) : ((findI n (G.map (fun e => (e.1, Value.bool e.2))) i).map (·.2)) = (Gl.lookB G n).map Value.bool ∧ (findI n (G.map (fun e => (e.1, Value.bool e.2))) i).isSome = (Gl.lookB G n).isSome := by
  induction G generalizing i with
  | nil => exact ⟨rfl, rfl⟩
  | cons a r ih =>
    obtain ⟨x, b⟩ := a
    unfold Gl.lookB
    simp only [List.map_cons, findI]
    by_cases q : n = x
    · simp [q]
    · simp only [q, if_false]
      exact ih (i + 1)
theorem look_groups (w : World) (r : Nat) (G : List (Int × Bool)) (n : Int) (h : Mp w r (groupsE G)) :
    (Instr.lookup 128 (.map (some r)) (.int .i64 n) true).run Tryz.prog w = .ok (.tuple #[.bool ((Gl.lookB G n).getD false), .bool (Gl.lookB G n).isSome]) w := by
  obtain ⟨es, c, h1, h2, h3⟩ := h
  obtain ⟨f1, f2⟩ := findI_groups n G 0
  have hf : (Instr.findKey 3 (.int .i64 n) es.toList).run Tryz.prog w = .ok (findI n (G.map (fun e => (e.1, Value.bool e.2))) 0) w :=
    MapKept.run_findKey (d := .int .i64) (by kernel_rfl) (findNow_int n _ _ 0 (by rw [h2]; simp [groupsE, Function.comp_def]))
  rw [run_look (P := Tryz.prog) w 128 3 4 r _ es c (.bool false) _ true Tryz.underlying128 (by kernel_rfl) h1 (fun b => MapKept.run_checkKey (d := .int .i64) (by kernel_rfl) (by simp [MapKept.IsKey]) b 9999) hf, f1, f2]
  cases Gl.lookB G n <;> rfl
attribute [local irreducible] Calls
set_option maxHeartbeats 2000000 in
set_option maxRecDepth 100000 in
theorem groups_isolated (w : World) (g r s t : Nat) (most lg ln n : Int) (G : List (Int × Bool)) (C : List (Int × Gl.Cluster)) (A : List (Int × List UInt8 × Int)) (h : GSt w g r s t most lg ln G C A) :
    Calls Tryz.prog 37 #[.pointer (some ⟨g, 0, none⟩), .int .i64 n] w (Ret w (.tuple #[.bool (Gl.isolated G n).1, .int .i64 (Gl.isolated G n).2])) := by
  have hl := look_groups w r G n h.mr
  have hc := h.blk.cell
  have hfz := h.blk.frozen
  unfold Gl.isolated
  cases hq : Gl.lookB G n
  · rw [hq] at hl
    go_enter Tryz.func37, Tryz.ntmps37
    go_wp2
    refine bodyPost_ret (v := (.tuple #[.bool false, .int .i64 170])) (by simp only [results, Tryz.results37]; go_simp) rfl ?_
    exact ⟨rfl, bw_⟩
  · rename_i b
    rw [hq] at hl
    go_enter Tryz.func37, Tryz.ntmps37
    go_wp2
    refine bodyPost_ret (v := (.tuple #[.bool b, .int .i64 0])) (by simp only [results, Tryz.results37]; go_simp) rfl ?_
    exact ⟨rfl, bw_⟩
theorem lookB_none (G : List (Int × Bool)) (n : Int) (h : ∀ e ∈ G, e.1 < n) : Gl.lookB G n = none := by
  induction G with
  | nil => rfl
  | cons a r ih =>
    obtain ⟨x, b⟩ := a
    unfold Gl.lookB
    have := h (x, b) (by simp)
    simp only at this
    rw [if_neg (by omega)]
    exact ih (fun e he => h e (by simp [he]))
theorem lay_groups (w : World) (r : Nat) (G : List (Int × Bool)) (n : Int) (b : Bool) (h : Mp w r (groupsE G)) (hn : Gl.lookB G n = none) :
    ∃ w', (Instr.mapUpdate 128 (.map (some r)) (.int .i64 n) (.bool b)).run Tryz.prog w = .ok () w' ∧ (∃ o, w' = w.putObj r o) ∧ Mp w' r (groupsE (G ++ [(n, b)])) := by
  obtain ⟨es, c, h1, h2, h3⟩ := h
  obtain ⟨f1, f2⟩ := findI_groups n G 0
  have hf : (Instr.findKey 3 (.int .i64 n) es.toList).run Tryz.prog w = .ok (findI n (G.map (fun e => (e.1, Value.bool e.2))) 0) w :=
    MapKept.run_findKey (d := .int .i64) (by kernel_rfl) (findNow_int n _ _ 0 (by rw [h2]; simp [groupsE, Function.comp_def]))
  rw [hn] at f2
  have f3 : findI n (G.map (fun e => (e.1, Value.bool e.2))) 0 = none := by
    cases hq : findI n (G.map (fun e => (e.1, Value.bool e.2))) 0 with
    | none => rfl
    | some x => rw [hq] at f2; simp at f2
  rw [f3] at hf
  refine ⟨_, run_lay (P := Tryz.prog) w 128 3 4 r _ _ es c Tryz.underlying128 h1 (fun b => MapKept.run_checkKey (d := .int .i64) (by kernel_rfl) (by simp [MapKept.IsKey]) b 9999) hf, ⟨_, rfl⟩, ?_⟩
  rw [show groupsE (G ++ [(n, b)]) = groupsE G ++ [(.int .i64 n, .bool b)] by simp [groupsE]]
  exact Mp.lay h1 h2 h3 _ _
theorem len_map {t k e : TypeId} (ht : (Tryz.prog).underlying t = some (.map k e)) (w : World) (r : Nat) (L : List (Value × Value)) (h : Mp w r L) (ty : TypeId) : (Builtin.len_ #[t] ty #[.map (some r)]).run Tryz.prog w = .ok (.int .i64 L.length) w := by
  obtain ⟨es, c, h1, h2, h3⟩ := h
  have hlen : es.size = L.length := by
    have := congrArg List.length h2
    simpa using this
  simp [Builtin.len_, run_underlying ht, MapKept.run_getObj_map h1, goInt, Result.andThen, hlen]
set_option maxHeartbeats 2000000 in
set_option maxRecDepth 100000 in
theorem groups_open_many (w : World) (g r s t : Nat) (most lg ln : Int) (b : Bool) (G : List (Int × Bool)) (C : List (Int × Gl.Cluster)) (A : List (Int × List UInt8 × Int)) (h : GSt w g r s t most lg ln G C A) (hm : most ≤ G.length) :
    Calls Tryz.prog 43 #[.pointer (some ⟨g, 0, none⟩), .bool b] w (Ret w (.tuple #[.int .i64 0, .int .i64 171])) := by
  have hc := h.blk.cell
  have hfz := h.blk.frozen
  have hlen := fun n => len_map Tryz.underlying128 (w.drewN n) r _ (h.mr.at_ rfl)
  rw [show (groupsE G).length = G.length by simp [groupsE]] at hlen
  generalize hN : G.length = N at *
  go_enter Tryz.func43, Tryz.ntmps43
  go_wp2
  go_quiet (fail)
  all_goals go_wp2
  refine bodyPost_ret (v := (.tuple #[.int .i64 0, .int .i64 171])) (by simp only [results, Tryz.results43]; go_simp) rfl ?_
  exact ⟨rfl, bw_⟩
set_option maxHeartbeats 2000000 in
set_option maxRecDepth 100000 in
theorem groups_open (w : World) (g r s t : Nat) (most lg ln : Int) (b : Bool) (G : List (Int × Bool)) (C : List (Int × Gl.Cluster)) (A : List (Int × List UInt8 × Int)) (h : GSt w g r s t most lg ln G C A) (hm : (G.length : Int) < most) (hl0 : 0 ≤ lg) (hl1 : lg < 1000000000) (hG : ∀ e ∈ G, e.1 ≤ lg) :
    Calls Tryz.prog 43 #[.pointer (some ⟨g, 0, none⟩), .bool b] w (fun e w' => (e = .returned (.tuple #[.int .i64 (lg + 1), .int .i64 0]) ∧ But [r, s, t, g] w w') ∧ GSt w' g r s t most (lg + 1) ln (G ++ [(lg + 1, b)]) C A) := by
  have hc := h.blk.cell
  have hfz := h.blk.frozen
  have hglt := h.blk.lt
  have hadd := fun (W : World) (hW : Blk W g 137 #[.int .i64 most, .int .i64 lg, .int .i64 ln, .map (some r), .map (some s), .map (some t)]) => atomic_add g 1 lg W ((hW.cell 1).trans rfl) (hW.frozen 1) hl0 hl1
  have hb0 := h.blk
  have h1 := h.rs
  have h2 := h.st
  have h3 := h.tg
  have hlen := fun n => len_map Tryz.underlying128 (w.drewN n) r _ (h.mr.at_ rfl)
  rw [show (groupsE G).length = G.length by simp [groupsE]] at hlen
  generalize hN : G.length = N at *
  go_enter Tryz.func43, Tryz.ntmps43
  go_wp2_with fail
  go_quiet (fail)
  all_goals (go_wp2_with fail)
  refine (hadd _ (hb0.drewN nq)).mono ?_
  rintro e w1 ⟨rfl, hw1⟩
  have hb1 : Blk w1 g 137 #[.int .i64 most, .int .i64 (lg + 1), .int .i64 ln, .map (some r), .map (some s), .map (some t)] := by rw [hw1]; exact (hb0.drewN nq).set_ 1 _
  have hbut : But [r, s, t, g] w w1 := by rw [hw1]; exact (But.ofBelow (below_drewN (Below.refl _ _) nq)).setCell (by simp) _
  have hr1 : Mp w1 r (groupsE G) := by rw [hw1]; exact Mp.far (h.mr.at_ rfl) (by simp; omega) _
  have hs1 : Mp w1 s (clustersE C) := by rw [hw1]; exact Mp.far (h.ms.at_ rfl) (by simp; omega) _
  have ht1 : Mp w1 t (placesE A) := by rw [hw1]; exact Mp.far (h.mt.at_ rfl) (by simp; omega) _
  clear hw1
  obtain ⟨_, hlay, ⟨o, rfl⟩, hmp⟩ := lay_groups w1 r G (lg + 1) b hr1 (lookB_none G _ (fun e he => by have := hG e he; omega))
  have hc1 := hb1.cell
  have hf1 := hb1.frozen
  go_wp2
  refine bodyPost_ret (v := (.tuple #[.int .i64 (lg + 1), .int .i64 0])) (by simp only [results, Tryz.results43]; go_simp) rfl ?_
  refine ⟨⟨rfl, ?_⟩, ?_, hmp, ?_, ?_, h1, h2, h3⟩
  · exact hbut.putObj (by simp) _
  · exact hb1.putObj (by omega) _
  · exact hs1.putObj (by omega) _
  · exact ht1.putObj (by omega) _
end Go.Proofs.YtbafofldgkigmaaGreatDoor
