/- glacislaw13.TaintWalks. -/
import Derived.Test.YtbafofldgkigmaaGreatDoorGot13
import Derived.Test.YtbafofldgkigmaaGreatDoorRefWalk13
namespace Go.Proofs.YtbafofldgkigmaaGreatDoor
open Go.RowKit
attribute [local irreducible] Calls
set_option maxRecDepth 100000 in
set_option maxHeartbeats 20000000 in
theorem law13_walks (m c cp : Int) (o : Gl.Origin) (v : Value) (L : List Gl.Hop) (w : World) (hE : Env w) (ho : OReq o) (hv : Hops w v L) : Calls Tryz.prog 7 #[.agg #[.int .i64 m, .int .i64 c, (Value.bool (o).opaq), (Value.int .i64 (o).id), (Value.string ⟨((o).scheme).toArray⟩), (Value.string ⟨(((o).host).name).toArray⟩), (Value.bool ((o).host).v4), (Value.int .u32 (((o).host).addr : Int)), (Value.int .i64 (o).port), .int .i64 cp], v] w (Ret w (.bool true)) := by
  have hup := fun W (hW : Below w.heap.size w W) => awake13 W (hE.below hW)
  have hsm := fun W (hW : Below w.heap.size w W) => law13_small m c cp o v L W (hv.below hW)
  replace hup := Lib.hid hup
  cases hs : smallHops o L
  · rw [hs] at hsm
    replace hsm := Lib.hid hsm
    obtain ⟨A, cc, rfl⟩ := hv.form
    clear hv ho hE hs
    go_enter Tryz.func7, Tryz.ntmps7
    go_wp2_with (first | ((first | (go_at_call 22; refine (hup.out _ (bw_)).mono ?_) | (go_at_call 26; refine (hsm.out _ (bw_)).mono ?_)); rintro e w1 ⟨rfl, hb⟩; obtain ⟨hc, hfz⟩ := bcell hb; have hz := hb.size; (try simp at hz); (try have hz0 := lt_ hb w.heap.size); (try have hz1 := lt_ hb (w.heap.size + 1)); (try have hz2 := lt_ hb (w.heap.size + 2)); (try have hz3 := lt_ hb (w.heap.size + 3)); (try have hcA := fun o => hc w.heap.size o sz_); (try have hcB := fun o => hc (w.heap.size + 1) o sz_); (try (have i := cf_ hb gA; obtain ⟨hcGgA, hfGgA, hzGgA⟩ := i)); (try (have i := cf_ hb gB; obtain ⟨hcGgB, hfGgB, hzGgB⟩ := i))))
    go_ret
    exact ⟨rfl, bw_⟩
  obtain ⟨how, hf, hl⟩ := small13 hs ho
  rw [hs] at hsm
  replace hsm := Lib.hid hsm
  clear hs ho
  have hwk := fun W (hW : Below w.heap.size w W) => taint_walk m c cp o v L W (hE.below hW) how (hv.below hW) hf (by omega)
  have hrk := fun W (hW : Below w.heap.size w W) => ref13_walk m c cp o v L W (hE.below hW) how (hv.below hW) hf (by omega)
  obtain ⟨A, cc, rfl⟩ := hv.form
  generalize Gl.walk m c cp o L = G at *
  obtain ⟨⟨rt, rc, rn⟩, e⟩ := G
  simp only [gotV] at hwk hrk
  replace hwk := Lib.hid hwk
  replace hrk := Lib.hid hrk
  clear hv hE how hf hl
  go_enter Tryz.func7, Tryz.ntmps7
  go_upto_region 1 with fail
  generalize hW0 : (w.alloc (Obj.cells #[.int .i64 m, .int .i64 c, (Value.bool (o).opaq), (Value.int .i64 (o).id), (Value.string ⟨((o).scheme).toArray⟩), (Value.string ⟨(((o).host).name).toArray⟩), (Value.bool ((o).host).v4), (Value.int .u32 (((o).host).addr : Int)), (Value.int .i64 (o).port), .int .i64 cp] 54)) = W0
  have hw0 : Below w.heap.size w W0 := by rw [← hW0]; (exact bw_)
  have hBR : Blk W0 (w.heap.size) 54 #[.int .i64 m, .int .i64 c, (Value.bool (o).opaq), (Value.int .i64 (o).id), (Value.string ⟨((o).scheme).toArray⟩), (Value.string ⟨(((o).host).name).toArray⟩), (Value.bool ((o).host).v4), (Value.int .u32 (((o).host).addr : Int)), (Value.int .i64 (o).port), .int .i64 cp] := by rw [← hW0]; exact (Blk.new _ _ _)
  clear hW0
  have hwz := hw0.size
  have hRl := hBR.lt
  have hRc := hBR.cell
  have hRf := hBR.frozen
  go_upto_region 5 with (first | ((first | (go_at_call 22; refine (hup.out _ (bw_)).mono ?_) | (go_at_call 26; refine (hsm.out _ (bw_)).mono ?_)); rintro e w1 ⟨rfl, hb⟩; obtain ⟨hc, hfz⟩ := bcell hb; have hz := hb.size; (try simp at hz); (try have hz0 := lt_ hb w.heap.size); (try have hz1 := lt_ hb (w.heap.size + 1)); (try have hz2 := lt_ hb (w.heap.size + 2)); (try have hz3 := lt_ hb (w.heap.size + 3)); (try have hcA := fun o => hc w.heap.size o sz_); (try have hcB := fun o => hc (w.heap.size + 1) o sz_); (try (have i := cf_ hb gA; obtain ⟨hcGgA, hfGgA, hzGgA⟩ := i)); (try (have i := cf_ hb gB; obtain ⟨hcGgB, hfGgB, hzGgB⟩ := i))))
  go_cut [7, 8] from 11 (fun x7 x8 w' => ∃ gA, x8 = .int .i64 e ∧ x7 = .pointer (some ⟨gA, 0, none⟩) ∧ Below w.heap.size w w' ∧ Blk w' (w.heap.size) 54 #[.int .i64 m, .int .i64 c, (Value.bool (o).opaq), (Value.int .i64 (o).id), (Value.string ⟨((o).scheme).toArray⟩), (Value.string ⟨(((o).host).name).toArray⟩), (Value.bool ((o).host).v4), (Value.int .u32 (((o).host).addr : Int)), (Value.int .i64 (o).port), .int .i64 cp] ∧ Blk w' (gA) 58 #[.int .i64 rt, .bool rc, .bool rn])
  case first =>
    go_wp2_with (go_at_call 27; refine (hwk.out _ (bw_)).mono ?_; rintro e w1 ⟨rfl, hb⟩; obtain ⟨hc, hfz⟩ := bcell hb; have hz := hb.size; (try simp at hz); (try have hz0 := lt_ hb w.heap.size); (try have hz1 := lt_ hb (w.heap.size + 1)); (try have hz2 := lt_ hb (w.heap.size + 2)); (try have hz3 := lt_ hb (w.heap.size + 3)); (try have hcA := fun o => hc w.heap.size o sz_); (try have hcB := fun o => hc (w.heap.size + 1) o sz_); (try (have i := cf_ hb gA; obtain ⟨hcGgA, hfGgA, hzGgA⟩ := i)); (try (have i := cf_ hb gB; obtain ⟨hcGgB, hfGgB, hzGgB⟩ := i)))
    go_meet
    case rel =>
      exact ⟨_, rfl, rfl, bw_, bk_, bk_⟩
  case rest =>
  clear hw0 hwz hRl hRc hRf hBR 
  obtain ⟨gA, rfl, rfl, hw0, hBR, hBA⟩ := hcut
  have hwz := hw0.size
  have hRl := hBR.lt
  have hRc := hBR.cell
  have hRf := hBR.frozen
  have hAl := hBA.lt
  have hAc := hBA.cell
  have hAf := hBA.frozen
  go_upto_region 6 with fail
  go_cut [9, 10] from 11 (fun x9 x10 w' => ∃ gB, x10 = .int .i64 e ∧ x9 = .pointer (some ⟨gB, 0, none⟩) ∧ Below w.heap.size w w' ∧ Blk w' (w.heap.size) 54 #[.int .i64 m, .int .i64 c, (Value.bool (o).opaq), (Value.int .i64 (o).id), (Value.string ⟨((o).scheme).toArray⟩), (Value.string ⟨(((o).host).name).toArray⟩), (Value.bool ((o).host).v4), (Value.int .u32 (((o).host).addr : Int)), (Value.int .i64 (o).port), .int .i64 cp] ∧ Blk w' (gA) 58 #[.int .i64 rt, .bool rc, .bool rn] ∧ Blk w' (gB) 58 #[.int .i64 rt, .bool rc, .bool rn])
  case first =>
    go_wp2_with (go_at_call 28; refine (hrk.out _ (bw_)).mono ?_; rintro e w1 ⟨rfl, hb⟩; obtain ⟨hc, hfz⟩ := bcell hb; have hz := hb.size; (try simp at hz); (try have hz0 := lt_ hb w.heap.size); (try have hz1 := lt_ hb (w.heap.size + 1)); (try have hz2 := lt_ hb (w.heap.size + 2)); (try have hz3 := lt_ hb (w.heap.size + 3)); (try have hcA := fun o => hc w.heap.size o sz_); (try have hcB := fun o => hc (w.heap.size + 1) o sz_); (try (have i := cf_ hb gA; obtain ⟨hcGgA, hfGgA, hzGgA⟩ := i)); (try (have i := cf_ hb gB; obtain ⟨hcGgB, hfGgB, hzGgB⟩ := i)))
    go_meet
    case rel =>
      exact ⟨_, rfl, rfl, bw_, bk_, bk_, bk_⟩
  case rest =>
  clear hw0 hwz hRl hRc hRf hAl hAc hAf hBR hBA 
  obtain ⟨gB, rfl, rfl, hw0, hBR, hBA, hBB⟩ := hcut
  have hwz := hw0.size
  have hRl := hBR.lt
  have hRc := hBR.cell
  have hRf := hBR.frozen
  have hAl := hBA.lt
  have hAc := hBA.cell
  have hAf := hBA.frozen
  have hBl := hBB.lt
  have hBc := hBB.cell
  have hBf := hBB.frozen
  go_wp2_with fail
  go_ret
  exact ⟨rfl, bw_⟩
end Go.Proofs.YtbafofldgkigmaaGreatDoor
