/- slices.Sorted(maps.Keys(m)) over the groups' maps. -/
import Derived.Test.YtbafofldgkigmaaGreatDoorShelfI
import Derived.Test.YtbafofldgkigmaaGreatDoorSorted0
import Derived.Test.YtbafofldgkigmaaGreatDoorAppend
import Derived.CallsIn
namespace Go.Proofs.YtbafofldgkigmaaGreatDoor
open Go.RowKit Go.Maps Go.Sort Go.Shelf
theorem flat_ints (ns : List Int) : (ns.map fun n => (#[.int .i64 n] : Array Value)).flatMap (·.toList) = ns.map (Value.int .i64) := by
  induction ns with
  | nil => rfl
  | cons a r ih => rw [List.map_cons, List.flatMap_cons, ih]; rfl
theorem keys_clusters (mb : Option Nat) (W : World) : Calls Tryz.prog 78 #[.map mb] W (fun e w' => e = .returned (.func (.func 104) #[] #[.pointer (some ⟨W.heap.size, 0, none⟩)]) ∧ w' = W.alloc (.cells #[.map mb] 129)) :=
  (callsIn_wide (n := 5)).1 (AnyZI.keys_in Tryz.keysC Fence.wide 5 trivial rfl mb W)
theorem keys_groups (mb : Option Nat) (W : World) : Calls Tryz.prog 79 #[.map mb] W (fun e w' => e = .returned (.func (.func 105) #[] #[.pointer (some ⟨W.heap.size, 0, none⟩)]) ∧ w' = W.alloc (.cells #[.map mb] 128)) :=
  (callsIn_wide (n := 5)).1 (AnyZI.keys_in Tryz.keysB Fence.wide 5 trivial rfl mb W)
theorem sorts_ints (m : Nat) : AnyZI.SortsIn Tryz.prog Tryz.sortedI_ren Fence.wide m :=
  ⟨fun blk off cap ss W hH hblk hsz => callsIn_wide.2 (AnyM.slices_Sort_int Tryz.sortI blk off cap ss W hH hblk hsz),
   fun p cap W => callsIn_wide.2 (AnyM.slices_Sort_int_none Tryz.sortI p cap W)⟩
set_option maxHeartbeats 1000000 in
theorem sorted_clusters (w : World) (s : Nat) (L : List (Value × Value)) (ns : List Int) (h : Mp w s L) (hk : L.map (·.1) = ns.map (Value.int .i64)) (hn : ns.Pairwise (fun a b => a < b)) (hr : ∀ n ∈ ns, 1 ≤ n ∧ n ≤ 1000000000) (hl : ns.length ≤ 1000000) :
    Calls Tryz.prog 77 #[.func (.func 104) #[] #[.pointer (some ⟨w.heap.size, 0, none⟩)]] (w.alloc (.cells #[.map (some s)] 129)) (fun e w' => ∃ v, e = .returned v ∧ OwnS w' (w.heap.size + 1) 3 1 v (ns.map fun n => #[.int .i64 n]) ∧ Below (w.heap.size + 1) (w.alloc (.cells #[.map (some s)] 129)) w') := by
  obtain ⟨D, hown, hsz, hperm⟩ := owns_ints h hk (hn.imp fun h => by omega) hr (by omega)
  have hbl := hown.lt
  have hseq : SeqGives Fence.wide 2 Tryz.prog 104 #[.pointer (some ⟨w.heap.size, 0, none⟩)] encZ (fun ss => ss.Perm (intKeys D)) (Maps.size D) (w.alloc (.cells #[.map (some s)] 129)) :=
    AnyZI.keys_gives (ρ := Tryz.keysC_ren) { Tryz.keysC with } Fence.wide _ trivial rfl (by omega) w.heap.size s ns.length D _ (by simp) (by simp) (by
      obtain ⟨es, clock, hb, Ft, hs, hD⟩ := hown
      exact ⟨es, clock, (Below.heap_alloc _ _ s hbl).trans hb, Ft, hs, hD⟩)
  have cS := AnyZI.sorted_in Tryz.sortedI Fence.wide 5 trivial trivial trivial trivial rfl (by omega) (sorts_ints _) (enters_of Tryz.func103 (by kernel_rfl) rfl) 104 #[.pointer (some ⟨w.heap.size, 0, none⟩)] trivial (enters_of Tryz.func104 (by kernel_rfl) rfl) _ _ (by rw [hsz]; unfold maxLen; omega) (by rw [hsz]; omega) _ hseq
  change CallsIn _ _ Tryz.prog 77 _ _ _ at cS
  refine ((callsIn_wide (n := 5)).1 cS).mono ?_
  rintro e w' ⟨v, ss, rfl, hS, hrow, _, hb⟩
  have hm := sorted_self (hS.trans hperm) hn
  have hsl : ss.length = ns.length := (hS.trans hperm).length_eq
  refine ⟨v, rfl, ⟨?_, by simp⟩, by simpa using hb⟩
  rw [hm, hsl, World.size_alloc] at hrow
  rw [show (ns.map fun n => (#[.int .i64 n] : Array Value)).length = ns.length by simp, flat_ints]
  exact hrow
set_option maxHeartbeats 1000000 in
theorem sorted_groups (w : World) (s : Nat) (L : List (Value × Value)) (ns : List Int) (h : Mp w s L) (hk : L.map (·.1) = ns.map (Value.int .i64)) (hn : ns.Pairwise (fun a b => a < b)) (hr : ∀ n ∈ ns, 1 ≤ n ∧ n ≤ 1000000000) (hl : ns.length ≤ 1000000) :
    Calls Tryz.prog 77 #[.func (.func 105) #[] #[.pointer (some ⟨w.heap.size, 0, none⟩)]] (w.alloc (.cells #[.map (some s)] 128)) (fun e w' => ∃ v, e = .returned v ∧ OwnS w' (w.heap.size + 1) 3 1 v (ns.map fun n => #[.int .i64 n]) ∧ Below (w.heap.size + 1) (w.alloc (.cells #[.map (some s)] 128)) w') := by
  obtain ⟨D, hown, hsz, hperm⟩ := owns_ints h hk (hn.imp fun h => by omega) hr (by omega)
  have hbl := hown.lt
  have hseq : SeqGives Fence.wide 2 Tryz.prog 105 #[.pointer (some ⟨w.heap.size, 0, none⟩)] encZ (fun ss => ss.Perm (intKeys D)) (Maps.size D) (w.alloc (.cells #[.map (some s)] 128)) :=
    AnyZI.keys_gives (ρ := Tryz.keysB_ren) { Tryz.keysB with } Fence.wide _ trivial rfl (by omega) w.heap.size s ns.length D _ (by simp) (by simp) (by
      obtain ⟨es, clock, hb, Ft, hs, hD⟩ := hown
      exact ⟨es, clock, (Below.heap_alloc _ _ s hbl).trans hb, Ft, hs, hD⟩)
  have cS := AnyZI.sorted_in Tryz.sortedI Fence.wide 5 trivial trivial trivial trivial rfl (by omega) (sorts_ints _) (enters_of Tryz.func103 (by kernel_rfl) rfl) 105 #[.pointer (some ⟨w.heap.size, 0, none⟩)] trivial (enters_of Tryz.func105 (by kernel_rfl) rfl) _ _ (by rw [hsz]; unfold maxLen; omega) (by rw [hsz]; omega) _ hseq
  change CallsIn _ _ Tryz.prog 77 _ _ _ at cS
  refine ((callsIn_wide (n := 5)).1 cS).mono ?_
  rintro e w' ⟨v, ss, rfl, hS, hrow, _, hb⟩
  have hm := sorted_self (hS.trans hperm) hn
  have hsl : ss.length = ns.length := (hS.trans hperm).length_eq
  refine ⟨v, rfl, ⟨?_, by simp⟩, by simpa using hb⟩
  rw [hm, hsl, World.size_alloc] at hrow
  rw [show (ns.map fun n => (#[.int .i64 n] : Array Value)).length = ns.length by simp, flat_ints]
  exact hrow
end Go.Proofs.YtbafofldgkigmaaGreatDoor
