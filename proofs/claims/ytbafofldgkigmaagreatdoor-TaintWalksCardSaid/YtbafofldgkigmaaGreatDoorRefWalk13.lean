/- glacisref13.Walk -/
import Derived.Test.YtbafofldgkigmaaGreatDoorRefWalk13a
import Derived.Test.YtbafofldgkigmaaGreatDoorRefWalk13b
import Derived.Test.YtbafofldgkigmaaGreatDoorRefWalk13c
namespace Go.Proofs.YtbafofldgkigmaaGreatDoor
open Go.RowKit
attribute [local irreducible] Calls
set_option maxRecDepth 100000 in
set_option maxHeartbeats 40000000 in
theorem ref13_walk (m c cp : Int) (o : Gl.Origin) (v : Value) (L : List Gl.Hop) (w : World) (hE : Env w) (ho : OWide o) (hv : Hops w v L) (hf : ∀ h ∈ L, (∀ x ∈ h.head, HeadFit x) ∧ h.head.length ≤ 1000000 ∧ h.url.rest.length ≤ 3000) (hLl : L.length ≤ 1000000) :
    Calls Tryz.prog 28 #[.agg #[.int .i64 m, .int .i64 c, (Value.bool (o).opaq), (Value.int .i64 (o).id), (Value.string ⟨((o).scheme).toArray⟩), (Value.string ⟨(((o).host).name).toArray⟩), (Value.bool ((o).host).v4), (Value.int .u32 (((o).host).addr : Int)), (Value.int .i64 (o).port), .int .i64 cp], v] w (Ret w (.tuple #[gotV (Gl.walk m c cp o L).1, .int .i64 (Gl.walk m c cp o L).2])) := by
  by_cases hm : m < 1 ∨ 3 < m
  · have hf1 : Hid (Gl.walk m c cp o L = ({}, 1)) := Lib.hid (walk_arg hm)
    rw [hf1.out]
    obtain ⟨A, cc, rfl⟩ := hv.form
    clear hf1 hv hf ho hE
    rcases hm with hm | hm
    · go_enter Tryz.func28, Tryz.ntmps28
      go_wp2
      refine bodyPost_ret (v := .tuple #[.agg #[(.int .i64 0), (.bool false), (.bool false)], .int .i64 1]) (by simp only [results, Tryz.results28]; go_simp) rfl ⟨rfl, bw_⟩
    · go_enter Tryz.func28, Tryz.ntmps28
      go_wp2
      refine bodyPost_ret (v := .tuple #[.agg #[(.int .i64 0), (.bool false), (.bool false)], .int .i64 1]) (by simp only [results, Tryz.results28]; go_simp) rfl ⟨rfl, bw_⟩
  have h123 : m = 1 ∨ m = 2 ∨ m = 3 := by omega
  rcases h123 with rfl | rfl | rfl
  · exact ref13_walk1 c cp o v L w hE ho hv hf hLl
  · exact ref13_walk2 c cp o v L w hE ho hv hf hLl
  · exact ref13_walk3 c cp o v L w hE ho hv hf hLl
end Go.Proofs.YtbafofldgkigmaaGreatDoor
