/- Groups: a range over the clusters with deletions, and deletions: the laws of the maps. -/
import Derived.Test.YtbafofldgkigmaaGreatDoorCluster
import Derived.Maps.RangeWalk
namespace Go.Proofs.YtbafofldgkigmaaGreatDoor
open Go.RowKit
/-- A range over the map of clusters under way: which are still to come. -/
def Going (w : World) (s r : Nat) (C : List (Int × Gl.Cluster)) (left : Int → Bool) (cnt : Nat) : Prop :=
  ∃ es clock since seen c0, w.heap[s]? = some (.map es clock) ∧ es.toList.map (fun e => (e.key, e.val)) = clustersE C ∧ Stamps es clock ∧ w.heap[r]? = some (.mapIter (some s) since seen c0) ∧ (∀ x ∈ es.toList, x.born < since) ∧ since ≤ c0 ∧ since ≤ clock ∧ (∀ x ∈ es.toList, ∀ n, x.key = .int .i64 n → left n = !seen.contains x.born) ∧ (leftOf es seen).size = cnt
theorem Going.mp {w : World} {s r : Nat} {C : List (Int × Gl.Cluster)} {left : Int → Bool} {cnt : Nat} (h : Going w s r C left cnt) : Mp w s (clustersE C) := by
  obtain ⟨es, clock, _, _, _, h1, h2, h3, _⟩ := h
  exact ⟨es, clock, h1, h2, h3⟩
theorem Going.left_eq {w : World} {s r : Nat} {C : List (Int × Gl.Cluster)} {left : Int → Bool} {cnt : Nat} (h : Going w s r C left cnt) : w.rangeLeft s r = cnt := by
  obtain ⟨es, clock, _, _, _, h1, _, _, h4, _, _, _, _, h9⟩ := h
  unfold World.rangeLeft
  rw [h1, h4]
  exact h9
theorem Going.at_ {w w' : World} {s r : Nat} {C : List (Int × Gl.Cluster)} {left : Int → Bool} {cnt : Nat} (h : Going w s r C left cnt) (e1 : w'.heap[s]? = w.heap[s]?) (e2 : w'.heap[r]? = w.heap[r]?) : Going w' s r C left cnt := by
  obtain ⟨es, clock, since, seen, c0, h1, h2, h3, h4, h5⟩ := h
  exact ⟨es, clock, since, seen, c0, e1.trans h1, h2, h3, e2.trans h4, h5⟩
theorem Going.lt {w : World} {s r : Nat} {C : List (Int × Gl.Cluster)} {left : Int → Bool} {cnt : Nat} (h : Going w s r C left cnt) : s < w.heap.size ∧ r < w.heap.size ∧ s ≠ r := by
  obtain ⟨es, clock, since, seen, c0, h1, h2, h3, h4, h5⟩ := h
  refine ⟨(Array.getElem?_eq_some_iff.1 h1).1, (Array.getElem?_eq_some_iff.1 h4).1, fun e => ?_⟩
  rw [e, h4] at h1
  cases h1
theorem going_range (w : World) (s : Nat) (C : List (Int × Gl.Cluster)) (h : Mp w s (clustersE C)) :
    ∃ w', (Instr.range 129 (.map (some s))).run Tryz.prog w = .ok (.pointer (some ⟨w.heap.size, 0, none⟩)) w' ∧ (∃ o, w' = w.alloc o) ∧ Going w' s w.heap.size C (fun _ => true) C.length := by
  have hlt := h.lt
  obtain ⟨es, c, h1, h2, h3⟩ := h
  refine ⟨_, run_range_map w _ _ _ s es c Tryz.underlying129 h1, ⟨_, rfl⟩, es, c, c, #[], c, (heap_alloc_old w _ hlt).trans h1, h2, h3, heap_alloc_new w _, fun x hx => h3.1 x (Array.mem_toList_iff.1 hx), Nat.le_refl _, Nat.le_refl _, fun x _ n _ => by simp, ?_⟩
  have : es.size = C.length := by
    have := congrArg List.length h2
    simpa [clustersE] using this
  rw [← this]
  simp [leftOf]
theorem keys_apart {es : List MapEntry} {C : List (Int × Gl.Cluster)} (h : es.map (fun e => (e.key, e.val)) = clustersE C) (hn : (C.map (·.1)).Nodup) : es.Pairwise (fun x y => x.key ≠ y.key) := by
  have h1 : es.map (·.key) = C.map (fun c => Value.int .i64 c.1) := by
    have := congrArg (List.map (fun p : Value × Value => p.1)) h
    simpa [clustersE, Function.comp_def] using this
  have h2 : (es.map (·.key)).Pairwise (fun x y => x ≠ y) := by
    rw [h1, List.pairwise_map]
    have h3 : C.Pairwise (fun x y => x.1 ≠ y.1) := List.pairwise_map.1 hn
    exact h3.imp (fun hne e => hne (by injection e))
  exact List.pairwise_map.1 h2
theorem entry_of {es : List MapEntry} {C : List (Int × Gl.Cluster)} (h : es.map (fun e => (e.key, e.val)) = clustersE C) {e : MapEntry} (he : e ∈ es) : ∃ c ∈ C, e.key = .int .i64 c.1 ∧ e.val = Gl.clusterV c.2 := by
  have : (e.key, e.val) ∈ clustersE C := by rw [← h]; exact List.mem_map.2 ⟨e, he, rfl⟩
  obtain ⟨c, hc, e1⟩ := List.mem_map.1 this
  injection e1 with e1 e2
  exact ⟨c, hc, e1.symm, e2.symm⟩
theorem of_entry {es : List MapEntry} {C : List (Int × Gl.Cluster)} (h : es.map (fun e => (e.key, e.val)) = clustersE C) {c : Int × Gl.Cluster} (hc : c ∈ C) : ∃ e ∈ es, e.key = .int .i64 c.1 := by
  have : ((.int .i64 c.1, Gl.clusterV c.2) : Value × Value) ∈ es.map (fun e => (e.key, e.val)) := by rw [h]; exact List.mem_map.2 ⟨c, hc, rfl⟩
  obtain ⟨e, he, e1⟩ := List.mem_map.1 this
  injection e1 with e1 e2
  exact ⟨e, he, e1⟩
open Go.ChangeMaps (setBlock) in
theorem going_next {w : World} {s r : Nat} {C : List (Int × Gl.Cluster)} {left : Int → Bool} {cnt : Nat} (h : Going w s r C left cnt) (hn : (C.map (·.1)).Nodup) (ty : TypeId) :
    (cnt = 0 ∧ (∀ e ∈ C, left e.1 = false) ∧ (Instr.next (.pointer (some ⟨r, 0, none⟩)) false ty).run Tryz.prog w = .ok (.tuple #[.bool false]) w) ∨
    ∃ e ∈ C, left e.1 = true ∧ ∃ w' cnt', (Instr.next (.pointer (some ⟨r, 0, none⟩)) false ty).run Tryz.prog w = .ok (.tuple #[.bool true, .int .i64 e.1, Gl.clusterV e.2]) w' ∧ Going w' s r C (fun n => left n && decide (n ≠ e.1)) cnt' ∧ cnt' < cnt ∧ But [r] w w' ∧ w'.heap.size = w.heap.size ∧
      (Instr.entry (.pointer (some ⟨r, 0, none⟩))).run Tryz.prog w' = .ok (.tuple #[.int .i64 e.1, Gl.clusterV e.2]) w' := by
  have hne := h.lt.2.2
  obtain ⟨es, clock, since, seen, c0, h1, h2, h3, h4, h5, h6, h7, h8, h9⟩ := h
  rcases run_next_at (P := Tryz.prog) w ty r s since c0 seen es clock h4 h1 h5 h6 with ⟨h0, hrun⟩ | ⟨e, he, w1, hal, hrun⟩
  · refine Or.inl ⟨by omega, fun c hc => ?_, hrun⟩
    obtain ⟨e, he, hk⟩ := of_entry h2 hc
    rw [h8 e he _ hk, all_seen es seen h0 e he]
    rfl
  · obtain ⟨hem, hes⟩ := mem_left he
    obtain ⟨c, hc, hk, hv⟩ := entry_of h2 hem
    have hr1 : w1.heap[r]? = some (.mapIter (some s) since seen c0) := by rcases hal with rfl | rfl <;> exact h4
    have hb1 : w1.heap[s]? = some (.map es clock) := by rcases hal with rfl | rfl <;> exact h1
    have hset := MapKept.heap_set (o' := .mapIter (some s) since (seen.push e.born) clock) hr1
    have hs1 : (setBlock w1 r (.mapIter (some s) since (seen.push e.born) clock)).heap[s]? = some (.map es clock) := (hset.2 s hne).trans hb1
    have hen := run_entry_at (P := Tryz.prog) _ r s since seen es clock e hset.1 hs1 hem h3.2
    rw [hk, hv] at hrun hen
    refine Or.inr ⟨c, hc, by rw [h8 e hem _ hk, hes]; rfl, _, _, hrun, ⟨es, clock, since, seen.push e.born, clock, hs1, h2, h3, hset.1, h5, h7, h7, fun x hx n hxn => ?_, rfl⟩, ?_, ?_, ?_, hen⟩
    · show (left n && decide (n ≠ c.1)) = _
      rw [h8 x hx n hxn, contains_push]
      by_cases q : n = c.1
      · have : x = e := entry_eq_of_key (keys_apart h2 hn) hx hem (by rw [hxn, hk, q])
        rw [this]
        simp [q]
      · have : (x.born == e.born) = false := by
          rw [beq_eq_false_iff_ne]
          intro hb
          have := born_inj h3.2 hx hem hb
          rw [this, hk] at hxn
          injection hxn with _ hxn
          exact q hxn.symm
        rw [this]
        simp [q]
    · rw [← h9]
      exact left_shrinks es seen e he
    · rcases hal with rfl | rfl <;> exact ⟨rfl, rfl, rfl, by simp [setBlock], fun j _ hj => hset.2 j (fun e1 => hj (by simp [e1]))⟩
    · rcases hal with rfl | rfl <;> simp [setBlock]
theorem findI_erase (n : Int) (L : List (Int × Value)) (k : Nat) (hn : (L.map (·.1)).Nodup) : (findI n L k = none → L.filter (fun e => decide (e.1 ≠ n)) = L) ∧ ∀ j v, findI n L k = some (j, v) → ∃ i, j = k + i ∧ i < L.length ∧ L.eraseIdx i = L.filter (fun e => decide (e.1 ≠ n)) := by
  induction L generalizing k with
  | nil => exact ⟨fun _ => rfl, fun j v h => by simp [findI] at h⟩
  | cons a r ih =>
    obtain ⟨x, u⟩ := a
    simp only [List.map_cons, List.nodup_cons] at hn
    obtain ⟨h1, h2⟩ := ih (k + 1) hn.2
    unfold findI
    by_cases q : n = x
    · subst q
      simp only [if_true]
      refine ⟨fun h => by simp at h, fun j v h => ?_⟩
      simp only [Option.some.injEq, Prod.mk.injEq] at h
      refine ⟨0, by omega, by simp, ?_⟩
      rw [List.eraseIdx_cons_zero, List.filter_cons_of_neg (by simp)]
      symm
      rw [List.filter_eq_self]
      intro e he
      simp only [ne_eq, decide_eq_true_eq]
      intro e1
      exact hn.1 (List.mem_map.2 ⟨e, he, e1⟩)
    · simp only [q, if_false]
      have hx : decide (x ≠ n) = true := by simp [Ne.symm q]
      refine ⟨fun h => ?_, fun j v h => ?_⟩
      · rw [List.filter_cons_of_pos (by simpa using hx), h1 h]
      · obtain ⟨i, e1, e2, e3⟩ := h2 j v h
        refine ⟨i + 1, by omega, by simp; omega, ?_⟩
        rw [List.eraseIdx_cons_succ, e3, List.filter_cons_of_pos (by simpa using hx)]
theorem findPlace_erase (n : Int) (key : List UInt8) (A : List (Int × List UInt8 × Int)) (k : Nat) (hn : (A.map (fun e => (e.1, e.2.1))).Nodup) : (findPlace n key A k = none → A.filter (fun e => decide (¬(e.1 = n ∧ e.2.1 = key))) = A) ∧ ∀ j v, findPlace n key A k = some (j, v) → ∃ i, j = k + i ∧ i < A.length ∧ A.eraseIdx i = A.filter (fun e => decide (¬(e.1 = n ∧ e.2.1 = key))) := by
  induction A generalizing k with
  | nil => exact ⟨fun _ => rfl, fun j v h => by simp [findPlace] at h⟩
  | cons a r ih =>
    obtain ⟨x, y, u⟩ := a
    simp only [List.map_cons, List.nodup_cons] at hn
    obtain ⟨h1, h2⟩ := ih (k + 1) hn.2
    unfold findPlace
    by_cases q : n = x ∧ key = y
    · obtain ⟨rfl, rfl⟩ := q
      simp only [and_self, if_true]
      refine ⟨fun h => by simp at h, fun j v h => ?_⟩
      simp only [Option.some.injEq, Prod.mk.injEq] at h
      refine ⟨0, by omega, by simp, ?_⟩
      rw [List.eraseIdx_cons_zero, List.filter_cons_of_neg (by simp)]
      symm
      rw [List.filter_eq_self]
      intro e he
      simp only [decide_eq_true_eq]
      intro e1
      exact hn.1 (List.mem_map.2 ⟨e, he, by rw [e1.1, e1.2]⟩)
    · simp only [q, if_false]
      have hx : ¬(x = n ∧ y = key) := fun h => q ⟨h.1.symm, h.2.symm⟩
      refine ⟨fun h => ?_, fun j v h => ?_⟩
      · rw [List.filter_cons_of_pos (p := fun e : Int × List UInt8 × Int => decide (¬(e.1 = n ∧ e.2.1 = key))) (a := (x, y, u)) (decide_eq_true hx), h1 h]
      · obtain ⟨i, e1, e2, e3⟩ := h2 j v h
        refine ⟨i + 1, by omega, by simp; omega, ?_⟩
        rw [List.eraseIdx_cons_succ, e3, List.filter_cons_of_pos (p := fun e : Int × List UInt8 × Int => decide (¬(e.1 = n ∧ e.2.1 = key))) (a := (x, y, u)) (decide_eq_true hx)]
theorem map_erase {α β : Type} (f : α → β) (l : List α) (i : Nat) : (l.eraseIdx i).map f = (l.map f).eraseIdx i := by
  induction l generalizing i with
  | nil => rfl
  | cons a r ih => cases i with
    | zero => rfl
    | succ i => simp [ih]
theorem erase_list (es : Array MapEntry) (i : Nat) (h : i < es.size) : (es.eraseIdxIfInBounds i).toList = es.toList.eraseIdx i := by
  unfold Array.eraseIdxIfInBounds
  rw [dif_pos h]
  simp
theorem Stamps.erase {es : Array MapEntry} {c : Nat} (h : Stamps es c) (i : Nat) (hi : i < es.size) : Stamps (es.eraseIdxIfInBounds i) c := by
  have hs : (es.eraseIdxIfInBounds i).toList.Sublist es.toList := by rw [erase_list es i hi]; exact List.eraseIdx_sublist _ _
  exact ⟨fun x hx => h.1 x (Array.mem_toList_iff.1 (hs.subset (Array.mem_toList_iff.2 hx))), (hs.map _).nodup h.2⟩
def erased (es : Array MapEntry) : Option (Nat × Value) → Array MapEntry
  | none => es
  | some x => es.eraseIdxIfInBounds x.1
theorem run_del {P : Program} (w : World) (t kt et ty : TypeId) (r : Nat) (k : Value) (es : Array MapEntry) (clock : Nat) (res : Option (Nat × Value)) (ht : P.underlying t = some (.map kt et))
    (hb : w.heap[r]? = some (.map es clock)) (hc : ∀ b, (Instr.checkKey b 10000 kt k).run P w = .ok () w) (hf : (Instr.findKey kt k es.toList).run P w = .ok res w) :
    (Builtin.delete_ #[t, kt] ty #[.map (some r), k]).run P w = .ok (.tuple #[]) (w.putObj r (.map (erased es res) clock)) := by
  cases res with
  | none => simp [Builtin.delete_, run_underlying ht, MapKept.run_getObj_map hb, hc, hf, MapKept.run_setObj_map _ hb, Result.andThen]; rfl
  | some x => simp [Builtin.delete_, run_underlying ht, MapKept.run_getObj_map hb, hc, hf, MapKept.run_setObj_map _ hb, Result.andThen]; rfl
theorem Going.drop {w : World} {s r : Nat} {C : List (Int × Gl.Cluster)} {left : Int → Bool} {cnt : Nat} (h : Going w s r C left cnt) (hn : (C.map (·.1)).Nodup) (n : Int) (ty : TypeId) :
    ∃ w' cnt', (Builtin.delete_ #[129, 3] ty #[.map (some s), .int .i64 n]).run Tryz.prog w = .ok (.tuple #[]) w' ∧ (∃ o, w' = w.putObj s o) ∧ Going w' s r (C.filter (fun e => decide (e.1 ≠ n))) left cnt' ∧ cnt' ≤ cnt := by
  have hne := h.lt.2.2
  obtain ⟨es, clock, since, seen, c0, h1, h2, h3, h4, h5, h6, h7, h8, h9⟩ := h
  have hlt := (Array.getElem?_eq_some_iff.1 h1).1
  have hL : (C.map (fun e => (e.1, Gl.clusterV e.2))).map (·.1) = C.map (·.1) := by simp [Function.comp_def]
  obtain ⟨f1, f2⟩ := findI_erase n (C.map (fun e => (e.1, Gl.clusterV e.2))) 0 (by rw [hL]; exact hn)
  have hf : (Instr.findKey 3 (.int .i64 n) es.toList).run Tryz.prog w = .ok (findI n (C.map (fun e => (e.1, Gl.clusterV e.2))) 0) w :=
    MapKept.run_findKey (d := .int .i64) (by kernel_rfl) (findNow_int n _ _ 0 (by rw [h2]; simp [clustersE, Function.comp_def]))
  have hrun := run_del (P := Tryz.prog) w 129 3 75 ty s (.int .i64 n) es clock _ Tryz.underlying129 h1 (fun b => MapKept.run_checkKey (d := .int .i64) (by kernel_rfl) (by simp [MapKept.IsKey]) b 9999) hf
  have hfil : ∀ C' : List (Int × Value), C' = (C.map (fun e => (e.1, Gl.clusterV e.2))).filter (fun e => decide (e.1 ≠ n)) → C'.map (fun e => ((Value.int .i64 e.1, e.2) : Value × Value)) = clustersE (C.filter (fun e => decide (e.1 ≠ n))) := by
    intro C' h
    rw [h, List.filter_map]
    simp [clustersE, Function.comp_def]
  have hces : clustersE C = (C.map (fun e => (e.1, Gl.clusterV e.2))).map (fun e => ((Value.int .i64 e.1, e.2) : Value × Value)) := by simp [clustersE, Function.comp_def]
  cases hq : findI n (C.map (fun e => (e.1, Gl.clusterV e.2))) 0 with
  | none =>
    rw [hq] at hrun
    refine ⟨_, _, hrun, ⟨_, rfl⟩, ⟨es, clock, since, seen, c0, by simp [World.putObj, hlt, erased], ?_, h3, by simp [World.putObj, hne]; exact h4, h5, h6, h7, h8, h9⟩, Nat.le_refl _⟩
    rw [h2, hces]
    exact hfil _ (f1 hq).symm
  | some x =>
    obtain ⟨j, v⟩ := x
    rw [hq] at hrun
    obtain ⟨i, rfl, hi, he⟩ := f2 j v hq
    have hsz : es.size = C.length := by
      have := congrArg List.length h2
      simpa [clustersE] using this
    have his : 0 + i < es.size := by simp at hi; omega
    have hsub : (es.eraseIdxIfInBounds (0 + i)).toList = es.toList.eraseIdx i := by rw [erase_list es _ his, Nat.zero_add]
    have hss : (es.eraseIdxIfInBounds (0 + i)).toList.Sublist es.toList := by rw [hsub]; exact List.eraseIdx_sublist _ _
    refine ⟨_, _, hrun, ⟨_, rfl⟩, ⟨es.eraseIdxIfInBounds (0 + i), clock, since, seen, c0, by simp [World.putObj, hlt, erased], ?_, h3.erase _ his, by simp [World.putObj, hne]; exact h4, fun x hx => h5 x (hss.subset hx), h6, h7, fun x hx => h8 x (hss.subset hx), rfl⟩, ?_⟩
    · rw [hsub, map_erase, h2, hces, ← map_erase]
      exact hfil _ he
    · rw [← h9]
      have e1 : ∀ a : Array MapEntry, (leftOf a seen).size = (a.toList.filter fun e => !seen.contains e.born).length := fun a => by
        unfold leftOf
        rw [← Array.toList_filter, Array.length_toList]
      rw [e1, e1]
      exact (hss.filter _).length_le
theorem del_groups (w : World) (r : Nat) (G : List (Int × Bool)) (h : Mp w r (groupsE G)) (hn : (G.map (·.1)).Nodup) (n : Int) (ty : TypeId) :
    ∃ w', (Builtin.delete_ #[128, 3] ty #[.map (some r), .int .i64 n]).run Tryz.prog w = .ok (.tuple #[]) w' ∧ (∃ o, w' = w.putObj r o) ∧ Mp w' r (groupsE (G.filter (fun e => decide (e.1 ≠ n)))) := by
  obtain ⟨es, clock, h1, h2, h3⟩ := h
  have hlt := (Array.getElem?_eq_some_iff.1 h1).1
  obtain ⟨f1, f2⟩ := findI_erase n (G.map (fun e => (e.1, Value.bool e.2))) 0 (by rw [show (G.map (fun e => (e.1, Value.bool e.2))).map (·.1) = G.map (·.1) by simp [Function.comp_def]]; exact hn)
  have hf : (Instr.findKey 3 (.int .i64 n) es.toList).run Tryz.prog w = .ok (findI n (G.map (fun e => (e.1, Value.bool e.2))) 0) w :=
    MapKept.run_findKey (d := .int .i64) (by kernel_rfl) (findNow_int n _ _ 0 (by rw [h2]; simp [groupsE, Function.comp_def]))
  have hrun := run_del (P := Tryz.prog) w 128 3 4 ty r (.int .i64 n) es clock _ Tryz.underlying128 h1 (fun b => MapKept.run_checkKey (d := .int .i64) (by kernel_rfl) (by simp [MapKept.IsKey]) b 9999) hf
  have hfil : ∀ C' : List (Int × Value), C' = (G.map (fun e => (e.1, Value.bool e.2))).filter (fun e => decide (e.1 ≠ n)) → C'.map (fun e => ((Value.int .i64 e.1, e.2) : Value × Value)) = groupsE (G.filter (fun e => decide (e.1 ≠ n))) := by
    intro C' h
    rw [h, List.filter_map]
    simp [groupsE, Function.comp_def]
  have hces : groupsE G = (G.map (fun e => (e.1, Value.bool e.2))).map (fun e => ((Value.int .i64 e.1, e.2) : Value × Value)) := by simp [groupsE, Function.comp_def]
  cases hq : findI n (G.map (fun e => (e.1, Value.bool e.2))) 0 with
  | none =>
    rw [hq] at hrun
    refine ⟨_, hrun, ⟨_, rfl⟩, es, clock, by simp [World.putObj, hlt, erased], ?_, h3⟩
    rw [h2, hces]
    exact hfil _ (f1 hq).symm
  | some x =>
    obtain ⟨j, v⟩ := x
    rw [hq] at hrun
    obtain ⟨i, rfl, hi, he⟩ := f2 j v hq
    have hsz : es.size = G.length := by
      have := congrArg List.length h2
      simpa [groupsE] using this
    have his : 0 + i < es.size := by simp at hi; omega
    refine ⟨_, hrun, ⟨_, rfl⟩, es.eraseIdxIfInBounds (0 + i), clock, by simp [World.putObj, hlt, erased], ?_, h3.erase _ his⟩
    rw [erase_list es _ his, Nat.zero_add, map_erase, h2, hces, ← map_erase]
    exact hfil _ he
theorem del_places (w : World) (t : Nat) (A : List (Int × List UInt8 × Int)) (h : Mp w t (placesE A)) (hn : (A.map (fun e => (e.1, e.2.1))).Nodup) (n : Int) (key : List UInt8) (ty : TypeId) :
    ∃ w', (Builtin.delete_ #[130, 149] ty #[.map (some t), .agg #[.int .i64 n, .string ⟨key.toArray⟩]]).run Tryz.prog w = .ok (.tuple #[]) w' ∧ (∃ o, w' = w.putObj t o) ∧ Mp w' t (placesE (A.filter (fun e => decide (¬(e.1 = n ∧ e.2.1 = key))))) := by
  obtain ⟨es, clock, h1, h2, h3⟩ := h
  have hlt := (Array.getElem?_eq_some_iff.1 h1).1
  obtain ⟨f1, f2⟩ := findPlace_erase n key A 0 hn
  have hf := run_find_place w n key A es.toList h2
  have hrun := run_del (P := Tryz.prog) w 130 149 3 ty t (placeV n key) es clock _ Tryz.underlying130 h1 (run_place_check w n key) hf
  cases hq : findPlace n key A 0 with
  | none =>
    rw [hq] at hrun
    refine ⟨_, hrun, ⟨_, rfl⟩, es, clock, by simp [World.putObj, hlt, erased], ?_, h3⟩
    rw [f1 hq]
    exact h2
  | some x =>
    obtain ⟨j, v⟩ := x
    rw [hq] at hrun
    obtain ⟨i, rfl, hi, he⟩ := f2 j v hq
    have hsz : es.size = A.length := by
      have := congrArg List.length h2
      simpa [placesE] using this
    have his : 0 + i < es.size := by omega
    refine ⟨_, hrun, ⟨_, rfl⟩, es.eraseIdxIfInBounds (0 + i), clock, by simp [World.putObj, hlt, erased], ?_, h3.erase _ his⟩
    rw [erase_list es _ his, Nat.zero_add, map_erase, h2]
    show (placesE A).eraseIdx i = _
    unfold placesE
    rw [← map_erase, he]
end Go.Proofs.YtbafofldgkigmaaGreatDoor
