/- Groups: the program's calls and the document's, over one plain state. -/
import Derived.Test.YtbafofldgkigmaaGreatDoorSameC
namespace Go.Proofs.YtbafofldgkigmaaGreatDoor
open Go.RowKit
attribute [local irreducible] Calls
theorem GP.openG {w : World} {g r s t : Nat} {S : Gl.Gs} {k : Int} (hok : S.Ok k) (hk : k ≤ 1000000) (h : GP w g r s t S) (b : Bool) :
    Calls Tryz.prog 43 #[.pointer (some ⟨g, 0, none⟩), .bool b] w (fun e w' => (e = .returned (.tuple #[.int .i64 (S.openG b).2.1, .int .i64 (S.openG b).2.2]) ∧ But [r, s, t, g] w w') ∧ GP w' g r s t (S.openG b).1) := by
  have h1 := hok.lgk
  have h2 := hok.lg0
  unfold Gl.Gs.openG
  by_cases hf : S.most ≤ S.G.length
  · rw [if_pos hf]
    refine (groups_open_many w g r s t _ _ _ b _ _ _ h hf).mono ?_
    rintro e w' ⟨rfl, hb⟩
    exact ⟨⟨rfl, But.ofBelow hb⟩, GSt.below h hb⟩
  · rw [if_neg hf]
    have := groups_open w g r s t S.most S.lg S.ln b S.G _ _ h (by omega) h2 (by omega) (fun e he => (hok.gl e he).2)
    exact this
theorem GP.cluster {w : World} {g r s t : Nat} {S : Gl.Gs} {k : Int} (hok : S.Ok k) (hk : k ≤ 1000000) (h : GP w g r s t S) (n : Int) (o : Gl.Origin) (v : Value) (U : List (List UInt8)) (hv : Sufs w v U) (hE : Env w) (ho : OWide o) (hid : -9223372036854775808 ≤ o.id ∧ o.id ≤ 9223372036854775807) :
    Calls Tryz.prog 45 #[.pointer (some ⟨g, 0, none⟩), .int .i64 n, (Value.agg #[(Value.bool (o).opaq), (Value.int .i64 (o).id), (Value.string ⟨((o).scheme).toArray⟩), (Value.string ⟨(((o).host).name).toArray⟩), (Value.bool ((o).host).v4), (Value.int .u32 (((o).host).addr : Int)), (Value.int .i64 (o).port)]), v] w (fun e w' => (e = .returned (.tuple #[.agg (ccells (S.cluster n o U).2.1), .int .i64 (S.cluster n o U).2.2]) ∧ But [r, s, t, g] w w') ∧ GP w' g r s t (S.cluster n o U).1) := by
  have h1 := hok.lnk
  have h2 := hok.ln0
  have hA := findA_find S.L n
  unfold Gl.Gs.cluster
  cases hn : Gl.lookB S.G n with
  | none =>
    refine (groups_cluster_none w g r s t _ _ _ n o v U _ _ _ h hv hn).mono ?_
    rintro e w' ⟨rfl, hb⟩
    exact ⟨⟨rfl, But.ofBelow hb⟩, GSt.below h hb⟩
  | some iso =>
    have hA := hA (Gl.keyOf o iso U)
    unfold Gl.Gs.findK
    simp only
    cases hf : S.L.find? (fun c => decide (c.grp = n ∧ c.key = Gl.keyOf o iso U)) with
    | some c =>
      rw [hf] at hA
      have hc := List.mem_of_find?_eq_some hf
      have hlk := lookC_find S.L c.id
      rw [find_id hok.c hc] at hlk
      have := groups_cluster_old w g r s t _ _ _ n o v U _ _ _ h hv iso hn hE ho hid c.id hA
      rw [hlk] at this
      refine this.mono ?_
      rintro e w' ⟨rfl, hb⟩
      exact ⟨⟨rfl, But.ofBelow hb⟩, GSt.below h hb⟩
    | none =>
      rw [hf] at hA
      have hl : (S.L.map Gl.cEnt).length = S.L.length := by simp
      by_cases hm : 4 * S.most ≤ S.L.length
      · simp only [hm, if_true]
        refine (groups_cluster_many w g r s t _ _ _ n o v U _ _ _ h hv iso hn hE ho hid hA (by rw [hl]; exact hm) hok.m1 hok.m2).mono ?_
        rintro e w' ⟨rfl, hb⟩
        exact ⟨⟨rfl, But.ofBelow hb⟩, GSt.below h hb⟩
      · simp only [hm, if_false]
        refine (groups_cluster_new w g r s t _ _ _ n o v U _ _ _ h hv iso hn hE ho hid hA (by rw [hl]; omega) hok.m1 hok.m2 h2 (by omega) (fun e he => ?_)).mono ?_
        · obtain ⟨c, hc, rfl⟩ := List.mem_map.1 he
          exact (hok.cl c hc).2
        · rintro e w' ⟨⟨rfl, hb⟩, hg⟩
          refine ⟨⟨rfl, hb⟩, ?_⟩
          unfold GP
          rw [List.map_append, List.map_append]
          exact hg
theorem OwnS.at_ {w w' : World} {B n : Nat} {t : TypeId} {v : Value} {L : List (Array Value)} (h : OwnS w B t n v L) (hb : ∀ y, B ≤ y → y < w.heap.size → w'.heap[y]? = w.heap[y]?) : OwnS w' B t n v L := by
  refine ⟨?_, h.2⟩
  have hlt := fun y => World.ownsRow.lt h.1 y
  obtain ⟨h1, h2⟩ := h.1
  refine ⟨h1, ?_⟩
  rcases h2 with h2 | ⟨y, cap, cur, hv, hB, hh, h3⟩
  · exact Or.inl h2
  · exact Or.inr ⟨y, cap, cur, hv, hB, (hb y hB (Array.getElem?_eq_some_iff.1 hh).1).trans hh, h3⟩
/-- Both: the program's groups lie below block g, the document's from g on. -/
structure Two (w : World) (p r s t g : Nat) (S : Gl.Gs) : Prop where
  P : GP w p r s t S
  R : ∃ vG vC, RSt w g vG vC S
  lt : p < g
theorem Two.below {w W : World} {p r s t g : Nat} {S : Gl.Gs} (h : Two w p r s t g S) (b : Below w.heap.size w W) : Two W p r s t g S := ⟨GSt.below h.P b, by obtain ⟨vG, vC, hr⟩ := h.R; exact ⟨vG, vC, hr.below b⟩, h.lt⟩
theorem RSt.but {w w' : World} {g p r s t : Nat} {vG vC : Value} {S : Gl.Gs} (h : RSt w g vG vC S) (hb : But [r, s, t, p] w w') (h1 : r < s) (h2 : s < t) (h3 : t < p) (h4 : p < g) : RSt w' g vG vC S :=
  ⟨(hb.block g h.blk.lt (by simp; omega)).trans h.blk, h.G.at_ (fun y h1 h2 => hb.block y h2 (by simp; omega)), h.C.at_ (fun y h1 h2 => hb.block y h2 (by simp; omega)), h.apart⟩
theorem GP.under {w w' : World} {g p r s t : Nat} {S : Gl.Gs} (h : GP w p r s t S) (hb : Below g w w') (hg : p < g) : GP w' p r s t S := by
  have h1 := GSt.rs h
  have h2 := GSt.st h
  have h3 := GSt.tg h
  exact ⟨h.blk.below hb hg, h.mr.at_ (hb.block r (by omega)), h.ms.at_ (hb.block s (by omega)), h.mt.at_ (hb.block t (by omega)), h1, h2, h3⟩
theorem OutR.low {w w' : World} {g : Nat} {vG vC : Value} {S : Gl.Gs} (h : OutR w w' g vG.ownBlock vC.ownBlock) (hr : RSt w g vG vC S) : Below g w w' :=
  h.below (Nat.le_of_lt hr.blk.lt) (fun j e => Nat.le_of_succ_le (World.ownsRow.lt hr.G.1 j e).1) (fun j e => Nat.le_of_succ_le (World.ownsRow.lt hr.C.1 j e).1)
/-- A block that the document's groups do not own. -/
theorem RSt.not {w : World} {g : Nat} {vG vC : Value} {S : Gl.Gs} (h : RSt w g vG vC S) {j : Nat} (hj : w.heap.size ≤ j) : vG.ownBlock ≠ some j ∧ vC.ownBlock ≠ some j :=
  ⟨fun e => by have := (World.ownsRow.lt h.G.1 j e).2; omega, fun e => by have := (World.ownsRow.lt h.C.1 j e).2; omega⟩
/-- A script's call. -/
structure Gl.Call where
  kind : Int
  n : Int
  yes : Bool
  o : Gl.Origin
def Gl.Gs.step (S : Gl.Gs) (c : Gl.Call) (U : List Gl.Bs) : Gl.Gs := if c.kind = 1 then (S.openG c.yes).1 else if c.kind = 2 then (S.dropG c.n).1 else if c.kind = 3 then (S.cluster c.n c.o U).1 else S
theorem Gl.Gs.Ok.step {S : Gl.Gs} {k : Int} (h : S.Ok k) (c : Gl.Call) (U : List Gl.Bs) : (S.step c U).Ok (k + 1) := by
  unfold Gl.Gs.step
  split
  · exact h.openG _
  split
  · exact (h.dropG _).more (by omega)
  split
  · exact h.cluster _ _ _
  · exact h.more (by omega)
end Go.Proofs.YtbafofldgkigmaaGreatDoor
