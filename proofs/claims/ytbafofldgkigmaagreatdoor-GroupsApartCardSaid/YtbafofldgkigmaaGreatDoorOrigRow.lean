/- Rows of origins that a call makes. -/
import Derived.Test.YtbafofldgkigmaaGreatDoorAppend
import Derived.Test.YtbafofldgkigmaaGreatDoorText
namespace Go.Proofs.YtbafofldgkigmaaGreatDoor
open Go.RowKit
theorem below_own2 {B C : Nat} {a W w1 : World} (hb : Below C W w1) (h : Below B a W) (hB : B ≤ C) : Below B a w1 := h.trans (hb.mono hB)
theorem orow_size (o : Gl.Origin) : (ocells o).size = 7 := rfl
theorem orow_sizes {L : List Gl.Origin} : ∀ c ∈ L.map ocells, c.size = 7 := by
  intro c hc
  obtain ⟨x, _, rfl⟩ := List.mem_map.1 hc
  rfl
theorem orow_ones {L : List Gl.Origin} : Ones (L.map ocells) := by
  intro c hc u hu
  obtain ⟨o, _, rfl⟩ := List.mem_map.1 hc
  simp only [ocells, List.mem_cons, List.not_mem_nil, or_false] at hu
  rcases hu with rfl | rfl | rfl | rfl | rfl | rfl | rfl <;> rfl
theorem Blk.oneSlot {W : World} {g n : Nat} {t : TypeId} {c : Array Value} (h : Blk W g t c) : Slots W (g + 1) (.slice (some ⟨g, 0, none⟩) 1 1) n [c] :=
  ⟨_, 1, rfl, Nat.le_refl _, by decide, fun _ => ⟨g, 0, rfl, Nat.lt_succ_self _, fun j hj i hi => by
    obtain rfl : j = 0 := by simpa using hj
    rw [show 0 + 0 * n + i = i by omega, h.cell]
    rfl⟩⟩
theorem Tryz.infoOrigin : (Tryz.prog.info? 35).map (fun i => (i.zero, i.size, i.bytes)) = some (some (.agg #[.bool false, .int .i64 0, .string ⟨#[]⟩, .string ⟨#[]⟩, .bool false, .int .u32 0, .int .i64 0]), 7, 64) := by kernel_rfl
theorem orow_more {W : World} {B : Nat} {v : Value} {As : List Gl.Origin} {o : Gl.Origin} (h : OwnS W B 35 7 v (([] ++ As.map ocells) ++ [ocells o])) : Slots W W.heap.size v 7 ((As ++ [o]).map ocells) := by
  have := h.slots
  simpa using this
end Go.Proofs.YtbafofldgkigmaaGreatDoor
