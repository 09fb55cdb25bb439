/- glacisref17: Find, Numbers, Same; glacisref16: Ints, Has. -/
import Derived.Test.YtbafofldgkigmaaGreatDoorRef17
import Derived.Deep.RegionHeld3
namespace Go.Proofs.YtbafofldgkigmaaGreatDoor
open Go.RowKit
attribute [local irreducible] Calls
def icells (n : Int) : Array Value := #[.int .i64 n]
theorem irow_sizes {L : List Int} : ∀ c ∈ L.map icells, c.size = 1 := by
  intro c hc
  obtain ⟨x, _, rfl⟩ := List.mem_map.1 hc
  rfl
theorem irow_ones {L : List Int} : Ones (L.map icells) := by
  intro c hc u hu
  obtain ⟨x, _, rfl⟩ := List.mem_map.1 hc
  simp only [icells, List.mem_cons, List.not_mem_nil, or_false] at hu
  subst hu
  rfl
theorem slice_cell {w : World} {A : Option Addr} {n c k : Nat} {M : List (Array Value)} (h : Slots w w.heap.size (.slice A n c) k M) (m : Nat) (hm : m < M.length) : ∃ b o, A = some ⟨b, o, none⟩ ∧ b < w.heap.size ∧ ∀ i, i < k → w.cell? ⟨b, o + m * k + i, none⟩ = (M[m])[i]? := by
  obtain ⟨b, o, c', e, hb, hc⟩ := Slots.cells h m hm
  injection e with e1
  exact ⟨b, o, e1, hb, hc m hm⟩
theorem Tryz.infoInt : (Tryz.prog.info? 3).map (fun i => (i.zero, i.size, i.bytes)) = some (some (.int .i64 0), 1, 8) := by kernel_rfl
set_option maxHeartbeats 4000000 in
set_option maxRecDepth 100000 in
theorem ref17_find (w : World) (g : Nat) (vG vC : Value) (S : Gl.Gs) (k : Int) (hok : S.Ok k) (h : RSt w g vG vC S) (n : Int) :
    Calls Tryz.prog 36 #[.pointer (some ⟨g, 0, none⟩), .int .i64 n] w (Ret w (.tuple #[.agg (ccells (S.findC n).1), .int .i64 (S.findC n).2])) := by
  obtain ⟨_, A, c, rfl⟩ := h.form
  have hgm := hok.cm
  have hm2 := hok.m2
  have hl0 := h.blk.lt
  unfold Gl.Gs.findC
  have hres : (S.L.drop 0).find? (fun c => decide (c.id = n)) = S.L.find? (fun c => decide (c.id = n)) := by rw [List.drop_zero]
  generalize S.L.find? (fun c => decide (c.id = n)) = R at *
  replace hres := Lib.hid hres
  obtain ⟨most, lg, ln, G, L⟩ := S
  simp only at *
  go_enter Tryz.func36, Tryz.ntmps36
  go_upto_region 1 with fail
  generalize hW : w.alloc (.cells #[.int .i64 0, .int .i64 0, .string ⟨#[]⟩, .bool false] 75) = W
  have hb : Below w.heap.size w W := by rw [← hW]; (exact bw_)
  have hN : Blk W w.heap.size 75 #[.int .i64 0, .int .i64 0, .string ⟨#[]⟩, .bool false] := by rw [← hW]; exact Blk.new _ _ _
  have hg := h.below hb
  have hc := hg.blk.cell
  have hf := hg.blk.frozen
  have hNc := hN.cell
  have hNf := hN.frozen
  have hNl := hN.lt
  clear hW
  go_wp2_with fail
  go_loopw [6] (fun i wr => ∃ m : Nat, m ≤ L.length ∧ i = .int .i64 m ∧ wr = W ∧ Hid ((L.drop m).find? (fun c => decide (c.id = n)) = R)) (fun i _ => L.length - (intOf i).toNat)
  case atStart => exact ⟨0, Nat.zero_le _, rfl, rfl, hres⟩
  case round =>
    obtain ⟨m, hm, rfl, rfl, hr⟩ := hrel
    by_cases hmt : m < L.length
    · obtain ⟨sb, so, rfl, hsB, hcell⟩ := hg.ccell m hmt
      rw [drop_consX hmt, List.find?_cons] at hr
      simp only at hcell hsB
      generalize L[m] = x at *
      obtain ⟨ci, cg, ck, cs⟩ := x
      have c0 := hcell 0 (by decide)
      have c1 := hcell 1 (by decide)
      have c2 := hcell 2 (by decide)
      have c3 := hcell 3 (by decide)
      simp only [Nat.add_zero, ccells, List.getElem?_toArray, List.getElem?_cons_zero, List.getElem?_cons_succ] at c0 c1 c2 c3
      clear hcell
      by_cases q : n = ci
      · subst q
        rw [show decide (n = n) = true by simp] at hr
        have hr := hr.out
        simp only at hr
        subst hr
        go_wp2
        refine bodyPost_ret (v := (.tuple #[.agg #[.int .i64 n, .int .i64 cg, .string ⟨ck.toArray⟩, .bool cs], .int .i64 0])) (by simp only [results, Tryz.results36]; go_simp) rfl ?_
        exact ⟨rfl, bw_⟩
      · have q2 : (ci == n) = false := by rw [beq_eq_false_iff_ne]; exact fun e => q e.symm
        rw [show decide (ci = n) = false by rw [decide_eq_false_iff_not]; exact fun e => q e.symm] at hr
        simp only at hr
        replace q := Lib.hid q
        go_wp2
        go_roundw
        case rel => exact ⟨m + 1, by omega, by go_num, trivial, hr⟩
        case measure => simp [intOf]; omega
    · rw [List.drop_eq_nil_of_le (by omega)] at hr
      have hr := hr.out
      subst hr
      go_wp2
      refine bodyPost_ret (v := (.tuple #[.agg #[.int .i64 0, .int .i64 0, .string ⟨#[]⟩, .bool false], .int .i64 170])) (by simp only [results, Tryz.results36]; go_simp) rfl ?_
      exact ⟨rfl, bw_⟩
set_option maxHeartbeats 4000000 in
set_option maxRecDepth 100000 in
theorem ref17_numbers (w : World) (g : Nat) (vG vC : Value) (S : Gl.Gs) (k : Int) (hok : S.Ok k) (h : RSt w g vG vC S) :
    Calls Tryz.prog 41 #[.pointer (some ⟨g, 0, none⟩)] w (fun e w' => ∃ v, e = .returned v ∧ Slots w' w'.heap.size v 1 (S.G.map fun e => #[.int .i64 e.1]) ∧ Below w.heap.size w w') := by
  obtain ⟨i1, hi1, hz3, hz4, hz5⟩ := info_parts Tryz.infoInt
  obtain ⟨⟨A, c, rfl⟩, _⟩ := h.form
  have hgm := hok.gm
  have hm2 := hok.m2
  have hl0 := h.blk.lt
  obtain ⟨most, lg, ln, G, L⟩ := S
  simp only at *
  go_enter Tryz.func41, Tryz.ntmps41
  go_wp2_with fail
  go_loopw [3, 4] (fun u i wr => ∃ m : Nat, m ≤ G.length ∧ i = .int .i64 m ∧ OwnS wr w.heap.size 3 1 u (((G.take m).map (·.1)).map icells) ∧ Below w.heap.size w wr) (fun _ i _ => G.length - (intOf i).toNat)
  case atStart => exact ⟨0, Nat.zero_le _, rfl, OwnS.nil _ _ _ _, Below.refl _ _⟩
  case round =>
    obtain ⟨m, hm, rfl, hown, hbr⟩ := hrel
    have hg := h.below hbr
    have hc := hg.blk.cell
    have hf := hg.blk.frozen
    have hbz := hbr.size
    by_cases hmt : m < G.length
    · obtain ⟨sb, so, rfl, hsB, hcell⟩ := hg.gcell m hmt
      simp only at hcell hsB
      have htk : G.take (m + 1) = G.take m ++ [G[m]] := List.take_succ_eq_append_getElem hmt
      generalize G[m] = x at *
      obtain ⟨gx, bx⟩ := x
      have c0 := hcell 0 (by decide)
      simp only [Nat.add_zero, gcells, List.getElem?_toArray, List.getElem?_cons_zero] at c0
      clear hcell
      replace htk := Lib.hid htk
      have htl : (((G.take m).map (·.1)).map icells).length = m := by simp; omega
      go_wp2_with (at_builtin; refine wpList_cat rfl (.tmp 14) (.tmp 23) 80 rfl w.heap.size 3 i1 _ 1 8 Tryz.underlying80 hi1 hz3 hz4 hz5 rfl (by decide) _ _ rfl (hown.keep ((Below.refl _ _).alloc (Nat.le_refl _) _) (Nat.le_refl _)) _ _ [icells gx] rfl (Blk.oneSlot (t := 3) (c := #[.int .i64 gx]) (Blk.new _ _ _)) (irow_sizes (L := [gx])) (irow_ones (L := [gx])) (by rw [htl]; simp [maxLen]; omega) (by rw [htl]; simp; omega) (by simp; omega) ?_; intro v2 wB hown2 hbB hgrB)
      have hown3 : OwnS wB w.heap.size 3 1 v2 (((G.take (m + 1)).map (·.1)).map icells) := by
        rw [htk.out, List.map_append, List.map_append]
        exact hown2
      go_roundw
      case rel => exact ⟨m + 1, by omega, by go_num, hown3, (hbr.alloc (by omega) _).trans hbB⟩
      case measure => simp [intOf]; omega
    · obtain rfl : m = G.length := by omega
      rw [List.take_length] at hown
      have hus := hown.slots
      go_wp2_with fail
      go_ret
      refine ⟨_, rfl, ?_, hbr⟩
      have e1 : (G.map (·.1)).map icells = G.map fun e => #[.int .i64 e.1] := by simp [icells, Function.comp_def]
      rw [← e1]
      exact hus
set_option maxHeartbeats 4000000 in
set_option maxRecDepth 100000 in
theorem ref16_ints (w : World) (v u : Value) (L : List Int) (hv : Slots w w.heap.size v 1 (L.map icells)) (hu : Slots w w.heap.size u 1 (L.map icells)) (hl : L.length ≤ 1000000) :
    Calls Tryz.prog 40 #[v, u] w (Ret w (.bool true)) := by
  obtain ⟨A, c, rfl, _⟩ := id hv
  obtain ⟨A2, c2, rfl, _⟩ := id hu
  rw [List.length_map] at *
  replace hv := Lib.hid hv
  replace hu := Lib.hid hu
  go_enter Tryz.func40, Tryz.ntmps40
  go_wp2_with fail
  go_loopw [5] (fun i wr => ∃ m : Nat, m ≤ L.length ∧ i = .int .i64 m ∧ Below w.heap.size w wr) (fun i _ => L.length - (intOf i).toNat)
  case atStart => exact ⟨0, Nat.zero_le _, rfl, Below.refl _ _⟩
  case round =>
    obtain ⟨m, hm, rfl, hb⟩ := hrel
    by_cases hmt : m < L.length
    · obtain ⟨sb, so, rfl, hsB, hcell⟩ := slice_cell hv.out m (by simpa using hmt)
      obtain ⟨tb, tq, rfl, htB, hcell2⟩ := slice_cell hu.out m (by simpa using hmt)
      have c0 := (hb.cell (p := ⟨sb, so + m * 1 + 0, none⟩) hsB).trans (hcell 0 (by decide))
      have d0 := (hb.cell (p := ⟨tb, tq + m * 1 + 0, none⟩) htB).trans (hcell2 0 (by decide))
      simp only [Nat.add_zero, Nat.mul_one, List.getElem_map, icells, List.getElem?_toArray, List.getElem?_cons_zero] at c0 d0
      clear hcell hcell2
      generalize L[m] = x at *
      go_upto_region 6 with fail
      go_quiet (fail)
      all_goals go_wp2_with fail
      go_roundw
      case rel => exact ⟨m + 1, by omega, by go_num, bw_⟩
      case measure => simp [intOf]; omega
    · go_wp2
      go_ret
      exact ⟨rfl, hb⟩
set_option maxHeartbeats 4000000 in
set_option maxRecDepth 100000 in
theorem ref16_has (w : World) (v : Value) (L : List Int) (n : Int) (hv : Slots w w.heap.size v 1 (L.map icells)) (hl : L.length ≤ 1000000) :
    Calls Tryz.prog 46 #[v, .int .i64 n] w (Ret w (.bool (L.contains n))) := by
  obtain ⟨A, c, rfl, _⟩ := id hv
  rw [List.length_map] at *
  replace hv := Lib.hid hv
  have hres : (L.drop 0).contains n = L.contains n := by rw [List.drop_zero]
  generalize L.contains n = R at *
  replace hres := Lib.hid hres
  go_enter Tryz.func46, Tryz.ntmps46
  go_wp2_with fail
  go_loopw [5] (fun i wr => ∃ m : Nat, m ≤ L.length ∧ i = .int .i64 m ∧ wr = w ∧ Hid ((L.drop m).contains n = R)) (fun i _ => L.length - (intOf i).toNat)
  case atStart => exact ⟨0, Nat.zero_le _, rfl, rfl, hres⟩
  case round =>
    obtain ⟨m, hm, rfl, rfl, hr⟩ := hrel
    by_cases hmt : m < L.length
    · obtain ⟨sb, so, rfl, hsB, hcell⟩ := slice_cell hv.out m (by simpa using hmt)
      have c0 := hcell 0 (by decide)
      simp only [Nat.add_zero, Nat.mul_one, List.getElem_map, icells, List.getElem?_toArray, List.getElem?_cons_zero] at c0
      clear hcell
      rw [drop_consX hmt, List.contains_cons] at hr
      generalize L[m] = x at *
      by_cases q : x = n
      · subst q
        rw [beq_self_eq_true, Bool.true_or] at hr
        have hr := hr.out
        subst hr
        go_wp2
        go_ret
        exact ⟨rfl, Below.refl _ _⟩
      · have q2 : (x == n) = false := by rw [beq_eq_false_iff_ne]; exact q
        rw [show (n == x) = false by rw [beq_eq_false_iff_ne]; exact fun e => q e.symm, Bool.false_or] at hr
        replace q := Lib.hid q
        go_wp2
        go_roundw
        case rel => exact ⟨m + 1, by omega, by go_num, trivial, hr⟩
        case measure => simp [intOf]; omega
    · rw [List.drop_eq_nil_of_le (by omega)] at hr
      have hr := hr.out
      subst hr
      go_wp2
      go_ret
      exact ⟨rfl, Below.refl _ _⟩
end Go.Proofs.YtbafofldgkigmaaGreatDoor
