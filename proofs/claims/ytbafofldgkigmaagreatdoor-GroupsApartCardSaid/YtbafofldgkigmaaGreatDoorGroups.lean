/- Groups: what is kept of them, and what New makes. -/
import Derived.Test.YtbafofldgkigmaaGreatDoorKeys
import Derived.Test.YtbafofldgkigmaaGreatDoorMaps
namespace Go.Proofs.YtbafofldgkigmaaGreatDoor
open Go.RowKit
namespace Gl
structure Cluster where
  id : Int
  grp : Int
  key : Bs
  iso : Bool
def clusterV (c : Cluster) : Value := .agg #[.int .i64 c.id, .int .i64 c.grp, .string ⟨c.key.toArray⟩, .bool c.iso]
end Gl
/-- All blocks but those in L are as they were. -/
structure But (L : List Nat) (w w' : World) : Prop where
  os : w'.os = w.os
  tape : w'.tape = w.tape
  output : w'.output = w.output
  size : w.heap.size ≤ w'.heap.size
  block : ∀ j, j < w.heap.size → j ∉ L → w'.heap[j]? = w.heap[j]?
theorem But.refl (L : List Nat) (w : World) : But L w w := ⟨rfl, rfl, rfl, Nat.le_refl _, fun _ _ _ => rfl⟩
theorem But.trans {L : List Nat} {a b c : World} (h : But L a b) (k : But L b c) : But L a c :=
  ⟨k.os.trans h.os, k.tape.trans h.tape, k.output.trans h.output, Nat.le_trans h.size k.size, fun j hj hn => (k.block j (Nat.lt_of_lt_of_le hj h.size) hn).trans (h.block j hj hn)⟩
theorem But.ofBelow {L : List Nat} {w w' : World} (h : Below w.heap.size w w') : But L w w' := ⟨h.os, h.tape, h.output, h.size, fun j hj _ => h.block j hj⟩
theorem But.below {L : List Nat} {m : Nat} {w w' : World} (h : But L w w') (hm : m ≤ w.heap.size) (hl : ∀ j ∈ L, m ≤ j) : Below m w w' :=
  ⟨h.os, h.tape, h.output, h.size, fun j hj => h.block j (Nat.lt_of_lt_of_le hj hm) (fun hi => absurd (hl j hi) (by omega))⟩
theorem But.setCell {L : List Nat} {a w : World} (h : But L a w) {p : Addr} (hp : p.block ∈ L) (u : Value) : But L a (w.setCell p u) :=
  h.trans ⟨rfl, rfl, rfl, by simp [World.setCell], fun j _ hn => Below.heap_setCell w p u j (fun e => hn (e ▸ hp))⟩
theorem But.putObj {L : List Nat} {a w : World} (h : But L a w) {r : Nat} (hp : r ∈ L) (o : Obj) : But L a (w.putObj r o) :=
  h.trans ⟨rfl, rfl, rfl, by simp [World.putObj], fun j _ hn => by simp [World.putObj, show ¬ r = j from fun e => hn (e ▸ hp)]⟩
theorem Blk.putObj {w : World} {g : Nat} {t : TypeId} {cs : Array Value} (h : Blk w g t cs) {r : Nat} (hp : g ≠ r) (o : Obj) : Blk (w.putObj r o) g t cs := by
  unfold Blk at h ⊢
  simp [World.putObj, Ne.symm hp, h]
/-- The entries' stamps: below the clock, no two alike. -/
def Stamps (es : Array MapEntry) (c : Nat) : Prop := (∀ x ∈ es, x.born < c) ∧ (es.toList.map (·.born)).Nodup
theorem Stamps.nil (c : Nat) : Stamps #[] c := ⟨by simp, by simp⟩
theorem Stamps.push {es : Array MapEntry} {c : Nat} (h : Stamps es c) (e : MapEntry) (he : e.born = c) : Stamps (es.push e) (c + 1) := by
  obtain ⟨h1, h2⟩ := h
  refine ⟨fun x hx => ?_, ?_⟩
  · rcases Array.mem_push.1 hx with hx | rfl
    · have := h1 x hx
      omega
    · omega
  · rw [Array.toList_push, List.map_append, List.nodup_append]
    refine ⟨h2, by simp, fun a ha b hb => ?_⟩
    obtain ⟨x, hx, rfl⟩ := List.mem_map.1 ha
    have := h1 x (Array.mem_toList_iff.1 hx)
    simp only [List.map_cons, List.map_nil, List.mem_singleton] at hb
    omega
/-- A map whose entries read as L. -/
def Mp (w : World) (r : Nat) (L : List (Value × Value)) : Prop := ∃ es c, w.heap[r]? = some (.map es c) ∧ es.toList.map (fun e => (e.key, e.val)) = L ∧ Stamps es c
theorem Mp.lt {w : World} {r : Nat} {L : List (Value × Value)} (h : Mp w r L) : r < w.heap.size := by
  obtain ⟨_, _, h, _⟩ := h
  exact (Array.getElem?_eq_some_iff.1 h).1
theorem Mp.at_ {w w' : World} {r : Nat} {L : List (Value × Value)} (h : Mp w r L) (e : w'.heap[r]? = w.heap[r]?) : Mp w' r L := by
  obtain ⟨es, c, h1, h2, h3⟩ := h
  exact ⟨es, c, e.trans h1, h2, h3⟩
theorem Mp.far {w : World} {r : Nat} {L : List (Value × Value)} (h : Mp w r L) {p : Addr} (hp : r ≠ p.block) (u : Value) : Mp (w.setCell p u) r L := h.at_ (Below.heap_setCell w p u r hp)
theorem Mp.putObj {w : World} {r q : Nat} {L : List (Value × Value)} (h : Mp w r L) (hp : r ≠ q) (o : Obj) : Mp (w.putObj q o) r L := h.at_ (by simp [World.putObj, Ne.symm hp])
theorem Mp.lay {w : World} {r : Nat} {L : List (Value × Value)} {es : Array MapEntry} {c : Nat} (h : w.heap[r]? = some (.map es c)) (hL : es.toList.map (fun e => (e.key, e.val)) = L) (hb : Stamps es c) (k v : Value) : Mp (w.putObj r (.map (es.push { key := k, val := v, born := c }) (c + 1))) r (L ++ [(k, v)]) := by
  have hlt := (Array.getElem?_eq_some_iff.1 h).1
  exact ⟨es.push { key := k, val := v, born := c }, c + 1, by simp [World.putObj, hlt], by simp [← hL], hb.push _ rfl⟩
def groupsE (G : List (Int × Bool)) : List (Value × Value) := G.map (fun e => (.int .i64 e.1, .bool e.2))
def clustersE (C : List (Int × Gl.Cluster)) : List (Value × Value) := C.map (fun e => (.int .i64 e.1, Gl.clusterV e.2))
def placesE (A : List (Int × List UInt8 × Int)) : List (Value × Value) := A.map (fun e => (placeV e.1 e.2.1, .int .i64 e.2.2))
structure GSt (w : World) (g r s t : Nat) (most lg ln : Int) (G : List (Int × Bool)) (C : List (Int × Gl.Cluster)) (A : List (Int × List UInt8 × Int)) : Prop where
  blk : Blk w g 137 #[.int .i64 most, .int .i64 lg, .int .i64 ln, .map (some r), .map (some s), .map (some t)]
  mr : Mp w r (groupsE G)
  ms : Mp w s (clustersE C)
  mt : Mp w t (placesE A)
  rs : r < s
  st : s < t
  tg : t < g
theorem GSt.below {w w' : World} {g r s t : Nat} {most lg ln : Int} {G : List (Int × Bool)} {C : List (Int × Gl.Cluster)} {A : List (Int × List UInt8 × Int)} (h : GSt w g r s t most lg ln G C A) (hb : Below w.heap.size w w') : GSt w' g r s t most lg ln G C A :=
  ⟨h.blk.below hb h.blk.lt, h.mr.at_ (hb.block r h.mr.lt), h.ms.at_ (hb.block s h.ms.lt), h.mt.at_ (hb.block t h.mt.lt), h.rs, h.st, h.tg⟩
theorem heap_four (w : World) (a b c d : Obj) : ((((w.alloc a).alloc b).alloc c).alloc d).heap[w.heap.size]? = some a ∧ ((((w.alloc a).alloc b).alloc c).alloc d).heap[w.heap.size + 1]? = some b ∧ ((((w.alloc a).alloc b).alloc c).alloc d).heap[w.heap.size + 2]? = some c ∧ ((((w.alloc a).alloc b).alloc c).alloc d).heap[w.heap.size + 3]? = some d := by
  rw [show ((((w.alloc a).alloc b).alloc c).alloc d).heap = (((w.heap.push a).push b).push c).push d from rfl]
  refine ⟨?_, ?_, ?_, ?_⟩ <;> simp only [Array.getElem?_push, Array.size_push]
  · rw [if_neg (by omega), if_neg (by omega), if_neg (by omega), if_pos trivial]
  · rw [if_neg (by omega), if_neg (by omega), if_pos trivial]
  · rw [if_neg (by omega), if_pos trivial]
  · rw [if_pos trivial]
attribute [local irreducible] Calls
set_option maxHeartbeats 2000000 in
set_option maxRecDepth 100000 in
theorem groups_new_err (w : World) (most : Int) (h : most < 1 ∨ 200 < most) : Calls Tryz.prog 32 #[.int .i64 most] w (Ret w (.tuple #[.pointer none, .int .i64 1])) := by
  go_enter Tryz.func32, Tryz.ntmps32
  go_wp2
  all_goals refine bodyPost_ret (v := (.tuple #[.pointer none, .int .i64 1])) (by simp only [results, Tryz.results32]; go_simp) rfl ?_
  all_goals exact ⟨rfl, bw_⟩
set_option maxHeartbeats 2000000 in
set_option maxRecDepth 100000 in
theorem groups_new (w : World) (most : Int) (h : 1 ≤ most) (h2 : most ≤ 200) : Calls Tryz.prog 32 #[.int .i64 most] w (fun e w' => (e = .returned (.tuple #[.pointer (some ⟨w.heap.size + 3, 0, none⟩), .int .i64 0]) ∧ Below w.heap.size w w') ∧ GSt w' (w.heap.size + 3) w.heap.size (w.heap.size + 1) (w.heap.size + 2) most 0 0 [] [] []) := by
  have hmm := @run_makeMap Tryz.prog
  go_enter Tryz.func32, Tryz.ntmps32
  go_wp2
  refine bodyPost_ret (v := (.tuple #[.pointer (some ⟨w.heap.size + 3, 0, none⟩), .int .i64 0])) (by simp only [results, Tryz.results32]; go_simp) rfl ?_
  refine ⟨⟨rfl, bw_⟩, ?_⟩
  obtain ⟨h1, h2, h3, h4⟩ := heap_four w (.map #[] 0) (.map #[] 0) (.map #[] 0) (.cells #[.int .i64 most, .int .i64 0, .int .i64 0, .map (some w.heap.size), .map (some (w.heap.size + 1)), .map (some (w.heap.size + 2))] 137)
  exact ⟨h4, ⟨_, _, h1, rfl, Stamps.nil _⟩, ⟨_, _, h2, rfl, Stamps.nil _⟩, ⟨_, _, h3, rfl, Stamps.nil _⟩, by omega, by omega, by omega⟩
end Go.Proofs.YtbafofldgkigmaaGreatDoor
