/- groups: Find, All. -/
import Derived.Test.YtbafofldgkigmaaGreatDoorDrop
import Derived.Test.YtbafofldgkigmaaGreatDoorSorted
import Derived.Test.YtbafofldgkigmaaGreatDoorOrigRow
namespace Go.Proofs.YtbafofldgkigmaaGreatDoor
open Go.RowKit
attribute [local irreducible] Calls
def ccells (c : Gl.Cluster) : Array Value := #[.int .i64 c.id, .int .i64 c.grp, .string ⟨c.key.toArray⟩, .bool c.iso]
theorem crow_sizes {L : List Gl.Cluster} : ∀ c ∈ L.map ccells, c.size = 4 := by
  intro c hc
  obtain ⟨x, _, rfl⟩ := List.mem_map.1 hc
  rfl
theorem crow_ones {L : List Gl.Cluster} : Ones (L.map ccells) := by
  intro c hc u hu
  obtain ⟨x, _, rfl⟩ := List.mem_map.1 hc
  simp only [ccells, List.mem_cons, List.not_mem_nil, or_false] at hu
  rcases hu with rfl | rfl | rfl | rfl <;> rfl
theorem Tryz.infoCluster : (Tryz.prog.info? 75).map (fun i => (i.zero, i.size, i.bytes)) = some (some (.agg #[.int .i64 0, .int .i64 0, .string ⟨#[]⟩, .bool false]), 4, 40) := by kernel_rfl
set_option maxHeartbeats 2000000 in
set_option maxRecDepth 100000 in
theorem groups_find (w : World) (g r s t : Nat) (S : Gl.Gs) (h : GP w g r s t S) (n : Int) :
    Calls Tryz.prog 35 #[.pointer (some ⟨g, 0, none⟩), .int .i64 n] w (Ret w (.tuple #[.agg (ccells (S.findC n).1), .int .i64 (S.findC n).2])) := by
  have hgl := h.blk.lt
  generalize hW : w.alloc (.cells #[.int .i64 0, .int .i64 0, .string ⟨#[]⟩, .bool false] 75) = W
  have hb : Below w.heap.size w W := by rw [← hW]; (exact bw_)
  have hN : Blk W w.heap.size 75 #[.int .i64 0, .int .i64 0, .string ⟨#[]⟩, .bool false] := by rw [← hW]; exact Blk.new _ _ _
  have hg : GP W g r s t S := GSt.below h hb
  have hlk := look_clusters W s _ n hg.ms true
  rw [lookC_find] at hlk
  have hc := hg.blk.cell
  have hf := hg.blk.frozen
  have hNc := hN.cell
  have hNf := hN.frozen
  have hNl := hN.lt
  unfold Gl.Gs.findC
  cases hq : S.L.find? (fun c => decide (c.id = n)) with
  | none =>
    rw [hq] at hlk
    simp only [Option.getD_none, Option.isSome_none, if_true] at hlk
    replace hlk : (Instr.lookup 129 (.map (some s)) (.int .i64 n) true).run Tryz.prog W = .ok (.tuple #[.agg #[.int .i64 0, .int .i64 0, .string ⟨#[]⟩, .bool false], .bool false]) W := hlk
    go_enter Tryz.func35, Tryz.ntmps35
    go_upto_region 1 with fail
    clear hW
    go_wp2_with fail
    refine bodyPost_ret (v := (.tuple #[.agg #[.int .i64 0, .int .i64 0, .string ⟨#[]⟩, .bool false], .int .i64 170])) (by simp only [results, Tryz.results35]; go_simp) rfl ?_
    exact ⟨rfl, bw_⟩
  | some c =>
    rw [hq] at hlk
    obtain ⟨ci, cg, ck, cs⟩ := c
    simp only [Option.getD_some, Option.isSome_some, if_true] at hlk
    replace hlk : (Instr.lookup 129 (.map (some s)) (.int .i64 n) true).run Tryz.prog W = .ok (.tuple #[.agg #[.int .i64 ci, .int .i64 cg, .string ⟨ck.toArray⟩, .bool cs], .bool true]) W := hlk
    go_enter Tryz.func35, Tryz.ntmps35
    go_upto_region 1 with fail
    clear hW
    go_wp2_with fail
    refine bodyPost_ret (v := (.tuple #[.agg #[.int .i64 ci, .int .i64 cg, .string ⟨ck.toArray⟩, .bool cs], .int .i64 0])) (by simp only [results, Tryz.results35]; go_simp) rfl ?_
    exact ⟨rfl, bw_⟩
set_option maxHeartbeats 4000000 in
set_option maxRecDepth 100000 in
theorem groups_all (w : World) (g r s t : Nat) (S : Gl.Gs) (k : Int) (hok : S.Ok k) (hk : k ≤ 1000000) (h : GP w g r s t S) :
    Calls Tryz.prog 39 #[.pointer (some ⟨g, 0, none⟩)] w (fun e w' => ∃ v u, e = .returned (.tuple #[v, u]) ∧ Slots w' w'.heap.size v 1 (S.G.map fun e => #[.int .i64 e.1]) ∧ Slots w' w'.heap.size u 4 (S.L.map ccells) ∧ Below w.heap.size w w') := by
  obtain ⟨i1, hi1, hz3, hz4, hz5⟩ := info_parts Tryz.infoCluster
  have hgl := h.blk.lt
  have hc := h.blk.cell
  have hf := h.blk.frozen
  have hlg := hok.lgk
  have hln := hok.lnk
  have hgm := hok.gm
  have hcm := hok.cm
  have hm2 := hok.m2
  have hS1 := fun (W : World) (hW : GP W g r s t S) => sorted_clusters W s _ (S.L.map (·.id)) hW.ms (by simp [clustersE, Function.comp_def, Gl.cEnt]) (List.pairwise_map.2 hok.c) (fun n hn => by
    obtain ⟨c, hc, rfl⟩ := List.mem_map.1 hn
    have := hok.cl c hc
    omega) (by simp; omega)
  have hS2 := fun (W : World) (hW : GP W g r s t S) => sorted_groups W r _ (S.G.map (·.1)) hW.mr (by simp [groupsE, Function.comp_def]) (List.pairwise_map.2 hok.g) (fun n hn => by
    obtain ⟨c, hc, rfl⟩ := List.mem_map.1 hn
    have := hok.gl c hc
    omega) (by simp; omega)
  have hlook : ∀ (W : World), GP W g r s t S → ∀ j, (hj : j < S.L.length) → (Instr.lookup 129 (.map (some s)) (.int .i64 S.L[j].id) false).run Tryz.prog W = .ok (.agg (ccells S.L[j])) W := fun W hW j hj => by
    have := look_clusters W s _ S.L[j].id hW.ms false
    rw [lookC_find, find_id hok.c (List.getElem_mem hj)] at this
    exact this
  replace hS1 := Lib.hid hS1
  replace hS2 := Lib.hid hS2
  replace hlook := Lib.hid hlook
  go_enter Tryz.func39, Tryz.ntmps39
  go_wp2_with fail
  refine (keys_clusters _ _).mono ?_
  rintro e w1 ⟨rfl, rfl⟩
  go_wp2_with fail
  refine (hS1.out w h).mono ?_
  rintro e w1 ⟨v, rfl, hv, hb0⟩
  have hb1 : Below w.heap.size w w1 := ((Below.refl w.heap.size w).alloc (Nat.le_refl _) _).trans (hb0.mono (by omega))
  have hg1 : GP w1 g r s t S := GSt.below h hb1
  have hvs := Lib.hid hv.slots
  obtain ⟨A, c, rfl⟩ := hv.form
  have hvl : ((S.L.map (·.id)).map fun n => (#[.int .i64 n] : Array Value)).length = S.L.length := by simp
  rw [hvl] at *
  clear hv hb0 hc hf hvl
  obtain ⟨most, lg, ln, G, L⟩ := S
  simp only at *
  go_wp2_with fail
  go_loopw [3, 5, 15] (fun u _ i wr => ∃ m : Nat, m ≤ L.length ∧ i = .int .i64 m ∧ OwnS wr w1.heap.size 75 4 u ((L.take m).map ccells) ∧ Below w1.heap.size w1 wr) (fun _ _ i _ => L.length - (intOf i).toNat)
  case atStart => exact ⟨0, Nat.zero_le _, rfl, OwnS.nil _ _ _ _, Below.refl _ _⟩
  case round =>
    obtain ⟨m, hm, rfl, hown, hbr⟩ := hrel
    have hgr : GP wr g r s t ⟨most, lg, ln, G, L⟩ := GSt.below hg1 hbr
    have hcr := GSt.blk hgr |>.cell
    have hfr := GSt.blk hgr |>.frozen
    have hbz := hbr.size
    by_cases hmt : m < L.length
    · obtain ⟨sb, so, sd, he, hsB, hcell⟩ := Slots.cells hvs.out m (by simpa using hmt)
      injection he with he1 he2 he3
      subst he1 he3
      have c0 := (hbr.cell (p := ⟨sb, so + m * 1 + 0, none⟩) hsB).trans (hcell m (by simpa using hmt) 0 (by decide))
      have hlk := hlook.out wr hgr m hmt
      have htk : L.take (m + 1) = L.take m ++ [L[m]] := List.take_succ_eq_append_getElem hmt
      simp only [Nat.add_zero, Nat.mul_one, List.getElem_map, List.getElem?_toArray, List.getElem?_cons_zero] at c0
      clear hcell
      generalize L[m] = x at *
      obtain ⟨ci, cg, ck, cs⟩ := x
      replace htk := Lib.hid htk
      simp only [ccells] at hlk c0
      have htl : ((L.take m).map ccells).length = m := by simp; omega
      go_wp2_with (at_builtin; refine wpList_cat rfl (.tmp 19) (.tmp 26) 81 rfl w1.heap.size 75 i1 _ 4 40 Tryz.underlying81 hi1 hz3 hz4 hz5 rfl (by decide) _ _ rfl (hown.keep ((Below.refl _ _).alloc (Nat.le_refl _) _) (Nat.le_refl _)) _ _ [ccells ⟨ci, cg, ck, cs⟩] rfl (Blk.oneSlot (t := 75) (c := #[.int .i64 ci, .int .i64 cg, .string ⟨ck.toArray⟩, .bool cs]) (Blk.new _ _ _)) (crow_sizes (L := [⟨ci, cg, ck, cs⟩])) (crow_ones (L := [⟨ci, cg, ck, cs⟩])) (by rw [htl]; simp [maxLen]; omega) (by rw [htl]; simp; omega) (by simp; omega) ?_; intro v2 wB hown2 hbB hgrB)
      have hown3 : OwnS wB w1.heap.size 75 4 v2 ((L.take (m + 1)).map ccells) := by
        rw [htk.out, List.map_append]
        exact hown2
      go_roundw
      case rel => exact ⟨m + 1, by omega, by go_num, hown3, (hbr.alloc (by omega) _).trans hbB⟩
      case measure => simp [intOf]; omega
    · obtain rfl : m = L.length := by omega
      rw [List.take_length] at hown
      have hus := hown.slots
      obtain ⟨A2, c2, rfl⟩ := hown.form
      go_wp2_with fail
      refine (keys_groups _ _).mono ?_
      rintro e w2 ⟨rfl, rfl⟩
      go_wp2_with fail
      refine (hS2.out wr hgr).mono ?_
      rintro e w2 ⟨v2, rfl, hv2, hb2⟩
      have hb3 : Below wr.heap.size wr w2 := ((Below.refl wr.heap.size wr).alloc (Nat.le_refl _) _).trans (hb2.mono (by omega))
      have hv2s := hv2.slots
      obtain ⟨A3, c3, rfl⟩ := hv2.form
      go_wp2_with fail
      refine bodyPost_ret (v := (.tuple #[.slice A3 G.length c3, .slice A2 L.length c2])) (by simp only [results, Tryz.results39]; go_simp) rfl ?_
      refine ⟨_, _, rfl, ?_, by simpa using hus.below hb3, hb1.trans ((hbr.trans (hb3.mono hbr.size)).mono hb1.size)⟩
      simpa [Function.comp_def] using hv2s
end Go.Proofs.YtbafofldgkigmaaGreatDoor
