/- A map whose keys are numbers, as the library's contracts on its sorted keys ask for it. -/
import Derived.Test.YtbafofldgkigmaaGreatDoorGroups
import Derived.Lib.SlKeysI
import Derived.Maps.OwnSet
namespace Go.Proofs.YtbafofldgkigmaaGreatDoor
open Go.RowKit
open Go.WideElems (Fit rd rg rd_mk rg_of)
open Go.WideShapes (sorted_perm)
def anyR (_ : Value) : Option (DataW Unit × List MemPlace) := some (.nil, [])
theorem owns_ints {w : World} {s : Nat} {L : List (Value × Value)} {ns : List Int} (h : Mp w s L) (hk : L.map (·.1) = ns.map (Value.int .i64)) (hn : ns.Nodup) (hr : ∀ n ∈ ns, 1 ≤ n ∧ n ≤ 1000000000) (hl : ns.length ≤ 1000000000) :
    ∃ D : DataW Unit, w.ownsMap Tryz.prog 3 anyR s ns.length D ∧ Maps.size D = ns.length ∧ (intKeys D).Perm ns := by
  obtain ⟨es, clock, h1, h2, h3⟩ := h
  have hkeys : es.toList.map (·.key) = ns.map (Value.int .i64) := by
    rw [← hk, ← h2, List.map_map]
    rfl
  have hsz : es.size = ns.length := by
    have := congrArg List.length hkeys
    simpa using this
  have hrd : ∀ x ∈ es.toList, ∃ n ∈ ns, x.key = .int .i64 n ∧ rd Tryz.prog 3 anyR x = some (.int .i64 n, .nil) := fun x hx => by
    have : x.key ∈ ns.map (Value.int .i64) := by rw [← hkeys]; exact List.mem_map.2 ⟨x, hx, rfl⟩
    obtain ⟨n, hn', e⟩ := List.mem_map.1 this
    have hw := hr n hn'
    refine ⟨n, hn', e.symm, ?_⟩
    have hko : keyOf Tryz.prog 3 x.key = some (.int .i64 n) := by
      rw [← e]
      have hwf : (Lit.int .i64 n).wf = true := by
        show (decide (IntKind.min .i64 ≤ n) && decide (n ≤ IntKind.max .i64)) = true
        rw [show IntKind.min .i64 = -9223372036854775808 by decide, show IntKind.max .i64 = 9223372036854775807 by decide, Bool.and_eq_true, decide_eq_true_eq, decide_eq_true_eq]
        omega
      unfold keyOf
      rw [Tryz.underlying3]
      simp [mapKey, Tryz.underlying3, hwf]
    unfold rd
    rw [hko]
    rfl
  have hm : ∀ (l : List MapEntry) (ns : List Int), l.map (·.key) = ns.map (Value.int .i64) → (∀ x ∈ l, ∃ n, x.key = .int .i64 n ∧ rd Tryz.prog 3 anyR x = some (.int .i64 n, .nil)) → (l.map (rg Tryz.prog 3 anyR)).map (fun p => intOf p.1) = ns := by
    intro l
    induction l with
    | nil => intro ns h _; cases ns with
      | nil => rfl
      | cons a b => simp at h
    | cons a r ih =>
      intro ns h h'
      cases ns with
      | nil => simp at h
      | cons m ms =>
        simp only [List.map_cons, List.cons.injEq] at h
        obtain ⟨n, e1, e2⟩ := h' a (by simp)
        rw [e1] at h
        obtain ⟨g1, g2⟩ := h
        obtain rfl := (Value.int.inj g1).2
        rw [List.map_cons, List.map_cons, rg_of e2, ih ms g2 (fun x hx => h' x (by simp [hx]))]
        rfl
  refine ⟨_, ⟨es, clock, h1, ⟨by unfold maxLen; omega, ⟨fun x hx => h3.1 x (Array.mem_toList_iff.1 hx), h3.2, ?_⟩, fun x hx => ?_⟩, by omega, rfl⟩, ?_, ?_⟩
  · rw [hkeys]
    exact List.pairwise_map.2 (hn.imp fun h e => h (Value.int.inj e).2)
  · obtain ⟨n, _, _, e⟩ := hrd x hx
    exact ⟨_, e⟩
  · rw [Maps.size_eq, (sorted_perm _).length_eq]
    simp [hsz]
  · show (List.map (fun p : Lit × DataW Unit => intOf p.1) _).Perm ns
    have := (sorted_perm (es.toList.map (rg Tryz.prog 3 anyR))).map (fun p : Lit × DataW Unit => intOf p.1)
    rw [hm es.toList ns hkeys (fun x hx => by obtain ⟨n, _, e1, e2⟩ := hrd x hx; exact ⟨n, e1, e2⟩)] at this
    exact this
theorem sorted_self {ss ns : List Int} (hp : ss.Perm ns) (hn : ns.Pairwise (fun a b => a < b)) : ss.mergeSort (fun x y => decide (x ≤ y)) = ns := by
  have h1 : (ss.mergeSort (fun x y => decide (x ≤ y))).Perm ns := (List.mergeSort_perm _ _).trans hp
  have h2 : (ss.mergeSort (fun x y => decide (x ≤ y))).Pairwise (fun a b => decide (a ≤ b) = true) := List.pairwise_mergeSort (fun a b c h1 h2 => by simp only [decide_eq_true_eq] at *; omega) (fun a b => by simp only [Bool.or_eq_true, decide_eq_true_eq]; omega) ss
  refine List.Perm.eq_of_pairwise (le := fun a b => a ≤ b) (fun a b _ _ h1 h2 => Int.le_antisymm h1 h2) (h2.imp fun h => by simpa using h) (hn.imp fun h => by omega) h1
end Go.Proofs.YtbafofldgkigmaaGreatDoor
