/- glacisref17: Open, Drop. -/
import Derived.Test.YtbafofldgkigmaaGreatDoorRef17b
namespace Go.Proofs.YtbafofldgkigmaaGreatDoor
open Go.RowKit
attribute [local irreducible] Calls
/-- All blocks but g, a, b are as they were. -/
structure OutR (w w' : World) (g : Nat) (a b : Option Nat) : Prop where
  os : w'.os = w.os
  tape : w'.tape = w.tape
  output : w'.output = w.output
  size : w.heap.size ≤ w'.heap.size
  block : ∀ j, j < w.heap.size → j ≠ g → a ≠ some j → b ≠ some j → w'.heap[j]? = w.heap[j]?
theorem OutR.ofBelow {w w' : World} {g : Nat} {a b : Option Nat} (h : Below w.heap.size w w') : OutR w w' g a b := ⟨h.os, h.tape, h.output, h.size, fun j hj _ _ _ => h.block j hj⟩
theorem OutR.trans {w w1 w2 : World} {g : Nat} {a b : Option Nat} (h : OutR w w1 g a b) (k : OutR w1 w2 g a b) : OutR w w2 g a b :=
  ⟨k.os.trans h.os, k.tape.trans h.tape, k.output.trans h.output, Nat.le_trans h.size k.size, fun j hj h1 h2 h3 => (k.block j (Nat.lt_of_lt_of_le hj h.size) h1 h2 h3).trans (h.block j hj h1 h2 h3)⟩
theorem OutR.then {w w1 w2 : World} {g : Nat} {a b : Option Nat} (h : OutR w w1 g a b) (k : Below w1.heap.size w1 w2) : OutR w w2 g a b := h.trans (OutR.ofBelow k)
theorem OutR.grown {w w1 w2 : World} {g : Nat} {a b row : Option Nat} (h : OutR w w1 g a b) (k : w1.grownBy w2 row) (hr : row = a ∨ row = b) : OutR w w2 g a b :=
  ⟨k.os.trans h.os, k.tape.trans h.tape, k.output.trans h.output, Nat.le_trans h.size k.size, fun j hj h1 h2 h3 => (k.block j (Nat.lt_of_lt_of_le hj h.size) (by rcases hr with rfl | rfl; exact fun e => h2 e.symm; exact fun e => h3 e.symm)).trans (h.block j hj h1 h2 h3)⟩
theorem OutR.setCell {w w1 : World} {g : Nat} {a b : Option Nat} (h : OutR w w1 g a b) {p : Addr} (hp : p.block = g ∨ w.heap.size ≤ p.block) (u : Value) : OutR w (w1.setCell p u) g a b :=
  ⟨h.os, h.tape, h.output, by simpa using h.size, fun j hj h1 h2 h3 => (Below.heap_setCell _ _ _ _ (by omega)).trans (h.block j hj h1 h2 h3)⟩
theorem OutR.below {w w' : World} {g : Nat} {a b : Option Nat} (h : OutR w w' g a b) (hg : g ≤ w.heap.size) (ha : ∀ j, a = some j → g ≤ j) (hb : ∀ j, b = some j → g ≤ j) : Below g w w' :=
  ⟨h.os, h.tape, h.output, h.size, fun j hj => h.block j (by omega) (by omega) (fun e => by have := ha j e; omega) (fun e => by have := hb j e; omega)⟩
theorem apart_more {w : World} {B n N : Nat} {t : TypeId} {v : Value} {L : List (Array Value)} {a b : Option Nat} (h : OwnS w B t n v L) (hap : v.ownBlock = none ∨ v.ownBlock ≠ a) (hb : b = a ∨ b = some N) (hN : w.heap.size ≤ N) : v.ownBlock = none ∨ v.ownBlock ≠ b := by
  rcases hb with rfl | rfl
  · exact hap
  · cases hq : v.ownBlock with
    | none => exact Or.inl rfl
    | some x =>
      refine Or.inr (fun e => ?_)
      have := (World.ownsRow.lt h.1 x hq).2
      injection e with e
      omega
set_option maxHeartbeats 4000000 in
set_option maxRecDepth 100000 in
theorem ref17_open (w : World) (g : Nat) (vG vC : Value) (S : Gl.Gs) (k : Int) (hok : S.Ok k) (hk : k ≤ 1000000) (h : RSt w g vG vC S) (b : Bool) :
    Calls Tryz.prog 74 #[.pointer (some ⟨g, 0, none⟩), .bool b] w (fun e w' => (e = .returned (.tuple #[.int .i64 (S.openG b).2.1, .int .i64 (S.openG b).2.2]) ∧ OutR w w' g vG.ownBlock vC.ownBlock) ∧ ∃ vG', RSt w' g vG' vC (S.openG b).1) := by
  obtain ⟨i1, hi1, hz3, hz4, hz5⟩ := info_parts Tryz.infoGroup
  obtain ⟨⟨A, c, rfl⟩, _⟩ := h.form
  have hgm := hok.gm
  have hm2 := hok.m2
  have hlg := hok.lgk
  have hlg0 := hok.lg0
  have hl0 := h.blk.lt
  have hB := h.blk
  have hG := h.G
  have hC := h.C
  have hap := h.apart
  unfold Gl.Gs.openG
  obtain ⟨most, lg, ln, G, L⟩ := S
  simp only at *
  have hc := hB.cell
  have hf := hB.frozen
  by_cases hfull : most ≤ G.length
  · rw [if_pos hfull]
    go_enter Tryz.func74, Tryz.ntmps74
    go_upto_region 1 with fail
    go_quiet (fail)
    all_goals go_wp2_with fail
    refine bodyPost_ret (v := (.tuple #[.int .i64 0, .int .i64 171])) (by simp only [results, Tryz.results74]; go_simp) rfl ?_
    exact ⟨⟨rfl, OutR.ofBelow (bw_)⟩, _, h.below (bw_)⟩
  · rw [if_neg hfull]
    have hGl : (G.map gcells).length = G.length := by simp
    go_enter Tryz.func74, Tryz.ntmps74
    go_upto_region 1 with fail
    go_quiet (fail)
    all_goals go_wp2_with fail
    have hb1 : Below w.heap.size w (w.drewN nq) := bw_
    have hB1 := hB.drewN nq
    have hG1 := hG.keep hb1 (Nat.le_refl _)
    have hC1 := hC.keep hb1 (Nat.le_refl _)
    clear hc hf hB hG hC h
    have hsz1 : w.heap.size ≤ (w.drewN nq).heap.size := hb1.size
    generalize w.drewN nq = W at *
    have hc := hB1.cell
    have hf := hB1.frozen
    have hl1 := hB1.lt
    go_region_law ((refine step_cat_at rfl (.tmp 20) (.tmp 27) 87 rfl (g + 1) 141 i1 _ 2 16 Tryz.underlying87 hi1 hz3 hz4 hz5 rfl (by decide) _ _ rfl (hG1.keep (((Below.refl W.heap.size W).drew).alloc (Nat.le_refl _) _) (Nat.le_refl _)) _ _ [gcells (lg + 1, b)] rfl (Blk.oneSlot (t := 141) (c := #[.int .i64 (lg + 1), .bool b]) (Blk.new _ _ _)) (grow_sizes (L := [(lg + 1, b)])) (grow_ones (L := [(lg + 1, b)])) (by rw [hGl]; simp [maxLen]; omega) (by rw [hGl]; simp; omega) (by simp; omega) ?_; intro v2 wB hown2 hbB hgrB hwhB; obtain ⟨A2, c2, hv2⟩ := hown2.form; rw [List.length_append, hGl, show [gcells (lg + 1, b)].length = 1 from rfl] at hv2; subst hv2; have hBB := (hB1.drew_.alloc _).below hbB (by omega); have hcB := hBB.cell; have hfB := hBB.frozen; have hlB := hBB.lt))
    all_goals
      have hB2 := hBB.set_ 0 (.slice A2 (G.length + 1) c2)
      have hG2 := OwnS.set hown2 (p := ⟨g, 0, none⟩) (Nat.lt_succ_self g) (.slice A2 (G.length + 1) c2)
      have hk1 := ((Below.refl W.heap.size W).drew).alloc (Nat.le_refl _) (Obj.cells #[.int .i64 (lg + 1), .bool b] 141)
      have hC2 := OwnS.set ((hC1.keep hk1 (Nat.le_refl _)).grown hgrB hap) (p := ⟨g, 0, none⟩) (Nat.lt_succ_self g) (.slice A2 (G.length + 1) c2)
      have hap2 := apart_more hC1 hap hwhB (by simp)
      have hb2 : OutR w (wB.setCell ⟨g, 0, none⟩ (.slice A2 (G.length + 1) c2)) g (Value.slice A G.length c).ownBlock vC.ownBlock := (((OutR.ofBelow hb1).then hk1).grown hgrB (Or.inl rfl)).setCell (p := ⟨g, 0, none⟩) (Or.inl rfl) _
      clear hBB hcB hfB hlB hown2 hbB hgrB hwhB hC1 hG1 hB1 hc hf hap hk1
      generalize (wB.setCell ⟨g, 0, none⟩ (.slice A2 (G.length + 1) c2)) = W3 at *
      have hc := hB2.cell
      have hf := hB2.frozen
      go_wp2_with fail
    all_goals refine bodyPost_ret (v := (.tuple #[.int .i64 (lg + 1), .int .i64 0])) (by simp only [results, Tryz.results74]; go_simp) rfl ?_
    all_goals refine ⟨⟨rfl, hb2.setCell (p := ⟨g, 3, none⟩) (Or.inl rfl) _⟩, .slice A2 (G.length + 1) c2, hB2.set_ 3 _, ?_, hC2.set (p := ⟨g, 3, none⟩) (Nat.lt_succ_self g) _, hap2⟩
    all_goals rw [List.map_append]
    all_goals exact hG2.set (p := ⟨g, 3, none⟩) (Nat.lt_succ_self g) _
set_option maxHeartbeats 4000000 in
set_option maxRecDepth 100000 in
theorem ref17_drop (w : World) (g : Nat) (vG vC : Value) (S : Gl.Gs) (k : Int) (hok : S.Ok k) (h : RSt w g vG vC S) (n : Int) :
    Calls Tryz.prog 75 #[.pointer (some ⟨g, 0, none⟩), .int .i64 n] w (fun e w' => (e = .returned (.int .i64 (S.dropG n).2) ∧ OutR w w' g vG.ownBlock vC.ownBlock) ∧ ∃ vG' vC', RSt w' g vG' vC' (S.dropG n).1) := by
  have hi := ref17_isolated w g vG vC S k hok h n
  unfold Gl.isolated at hi
  unfold Gl.Gs.dropG
  have hl0 := h.blk.lt
  cases hn : Gl.lookB S.G n with
  | none =>
    rw [hn] at hi
    go_enter Tryz.func75, Tryz.ntmps75
    go_wp2_with fail
    refine hi.mono ?_
    rintro e w1 ⟨rfl, hb⟩
    go_wp2_with fail
    refine bodyPost_ret (v := (.int .i64 170)) (by simp only [results, Tryz.results75]; go_simp) rfl ?_
    exact ⟨⟨rfl, OutR.ofBelow hb⟩, _, _, h.below hb⟩
  | some iso =>
    rw [hn] at hi
    obtain ⟨i1, hi1, hz3, hz4, hz5⟩ := info_parts Tryz.infoGroup
    obtain ⟨i2, hi2, hz6, hz7, hz8⟩ := info_parts Tryz.infoCluster
    obtain ⟨⟨A, c, rfl⟩, A2, c2, rfl⟩ := h.form
    have hgm := hok.gm
    have hcm := hok.cm
    have hm2 := hok.m2
    obtain ⟨most, lg, ln, G, L⟩ := S
    simp only at *
    go_enter Tryz.func75, Tryz.ntmps75
    go_wp2_with fail
    refine hi.mono ?_
    rintro e w1 ⟨rfl, hb⟩
    have h1 := h.below hb
    have hl1 := h1.blk.lt
    clear hi h hn hok
    go_wp2_with fail
    go_loopw [7, 8] (fun u i wr => ∃ m : Nat, m ≤ G.length ∧ i = .int .i64 m ∧ OwnS wr w1.heap.size 141 2 u (((G.take m).filter (fun e => decide (e.1 ≠ n))).map gcells) ∧ Below w1.heap.size w1 wr) (fun _ i _ => G.length - (intOf i).toNat)
    case atStart => exact ⟨0, Nat.zero_le _, rfl, OwnS.nil _ _ _ _, Below.refl _ _⟩
    case round =>
      obtain ⟨m, hm, rfl, hown, hbr⟩ := hrel
      have hg := h1.below hbr
      have hc := hg.blk.cell
      have hf := hg.blk.frozen
      have hbz := hbr.size
      by_cases hmt : m < G.length
      · obtain ⟨sb, so, rfl, hsB, hcell⟩ := hg.gcell m hmt
        simp only at hcell hsB
        have htk : G.take (m + 1) = G.take m ++ [G[m]] := List.take_succ_eq_append_getElem hmt
        generalize G[m] = x at *
        obtain ⟨gx, bx⟩ := x
        have c0 := hcell 0 (by decide)
        have c1 := hcell 1 (by decide)
        simp only [Nat.add_zero, gcells, List.getElem?_toArray, List.getElem?_cons_zero, List.getElem?_cons_succ] at c0 c1
        clear hcell
        replace htk := Lib.hid htk
        have htl : (((G.take m).filter (fun e => decide (e.1 ≠ n))).map gcells).length ≤ 200 := by
          have := List.length_filter_le (fun e : Int × Bool => decide (e.1 ≠ n)) (G.take m)
          simp only [List.length_map, List.length_take] at *
          omega
        by_cases q : gx = n
        · have q2 : (gx != n) = false := by rw [q]; simp
          replace q := Lib.hid q
          have hf2 : (G.take (m + 1)).filter (fun e => decide (e.1 ≠ n)) = (G.take m).filter (fun e => decide (e.1 ≠ n)) := by
            rw [htk.out, List.filter_append, List.filter_cons_of_neg (by simp [q.out])]
            simp
          rw [← hf2] at hown
          replace hf2 := Lib.hid hf2
          go_wp2_with fail
          go_roundw
          case rel => exact ⟨m + 1, by omega, by go_num, hown, hbr⟩
          case measure => simp [intOf]; omega
        · have q2 : (gx != n) = true := by rw [bne_iff_ne]; exact q
          replace q := Lib.hid q
          have hf2 : (G.take (m + 1)).filter (fun e => decide (e.1 ≠ n)) = (G.take m).filter (fun e => decide (e.1 ≠ n)) ++ [(gx, bx)] := by
            rw [htk.out, List.filter_append, List.filter_cons_of_pos (by simpa using q.out)]
            simp
          replace hf2 := Lib.hid hf2
          generalize (G.take m).filter (fun e => decide (e.1 ≠ n)) = F at *
          go_wp2_with (at_builtin; refine wpList_cat rfl (.tmp 39) (.tmp 47) 87 rfl w1.heap.size 141 i1 _ 2 16 Tryz.underlying87 hi1 hz3 hz4 hz5 rfl (by decide) _ _ rfl (hown.keep ((Below.refl _ _).alloc (Nat.le_refl _) _) (Nat.le_refl _)) _ _ [gcells (gx, bx)] rfl (Blk.oneSlot (t := 141) (c := #[.int .i64 gx, .bool bx]) (Blk.new _ _ _)) (grow_sizes (L := [(gx, bx)])) (grow_ones (L := [(gx, bx)])) (by simp only [maxLen, List.length_cons, List.length_nil]; omega) (by simp only [List.length_cons, List.length_nil]; omega) (by simp; omega) ?_; intro v2 wB hown2 hbB hgrB)
          have hown3 : OwnS wB w1.heap.size 141 2 v2 (((G.take (m + 1)).filter (fun e => decide (e.1 ≠ n))).map gcells) := by
            rw [hf2.out, List.map_append]
            exact hown2
          go_roundw
          case rel => exact ⟨m + 1, by omega, by go_num, hown3, (hbr.alloc (by omega) _).trans hbB⟩
          case measure => simp [intOf]; omega
      · rw [List.take_of_length_le (by omega)] at hown
        obtain ⟨A3, c3, e3⟩ := hown.form
        rw [List.length_map] at e3
        subst e3
        generalize hF : G.filter (fun e => decide (e.1 ≠ n)) = F at *
        have hbw : OutR w wr g (Value.slice A G.length c).ownBlock (Value.slice A2 L.length c2).ownBlock := (OutR.ofBelow hb).then hbr
        have hlw := hg.blk.lt
        clear h1 hb
        obtain ⟨w2, hw2⟩ : ∃ w2, w2 = wr := ⟨_, rfl⟩
        subst hw2
        go_wp2_with fail
        go_loopw [9, 10] (fun u i wq => ∃ m : Nat, m ≤ L.length ∧ i = .int .i64 m ∧ OwnS wq w2.heap.size 75 4 u (((L.take m).filter (fun c => decide (c.grp ≠ n))).map ccells) ∧ Below w2.heap.size w2 wq) (fun _ i _ => L.length - (intOf i).toNat)
        case atStart => exact ⟨0, Nat.zero_le _, rfl, OwnS.nil _ _ _ _, Below.refl _ _⟩
        case round =>
          clear hc hf
          obtain ⟨m, hm, rfl, hownC, hbq⟩ := hrel
          have hq := hg.below hbq
          have hc := hq.blk.cell
          have hf := hq.blk.frozen
          have hqz := hbq.size
          by_cases hmt : m < L.length
          · obtain ⟨sb, so, rfl, hsB, hcell⟩ := hq.ccell m hmt
            simp only at hcell hsB
            have htk : L.take (m + 1) = L.take m ++ [L[m]] := List.take_succ_eq_append_getElem hmt
            generalize L[m] = x at *
            obtain ⟨ci, cg, ck, cs⟩ := x
            have c0 := hcell 0 (by decide)
            have c1 := hcell 1 (by decide)
            have c2 := hcell 2 (by decide)
            have c3 := hcell 3 (by decide)
            simp only [Nat.add_zero, ccells, List.getElem?_toArray, List.getElem?_cons_zero, List.getElem?_cons_succ] at c0 c1 c2 c3
            clear hcell
            replace htk := Lib.hid htk
            have htl : (((L.take m).filter (fun c => decide (c.grp ≠ n))).map ccells).length ≤ 800 := by
              have := List.length_filter_le (fun c : Gl.Cluster => decide (c.grp ≠ n)) (L.take m)
              simp only [List.length_map, List.length_take] at *
              omega
            by_cases q : cg = n
            · have q2 : (cg != n) = false := by rw [q]; simp
              replace q := Lib.hid q
              have hf2 : (L.take (m + 1)).filter (fun c => decide (c.grp ≠ n)) = (L.take m).filter (fun c => decide (c.grp ≠ n)) := by
                rw [htk.out, List.filter_append, List.filter_cons_of_neg (by simp [q.out])]
                simp
              rw [← hf2] at hownC
              replace hf2 := Lib.hid hf2
              go_wp2_with fail
              go_roundw
              case rel => exact ⟨m + 1, by omega, by go_num, hownC, hbq⟩
              case measure => simp [intOf]; omega
            · have q2 : (cg != n) = true := by rw [bne_iff_ne]; exact q
              replace q := Lib.hid q
              have hf2 : (L.take (m + 1)).filter (fun c => decide (c.grp ≠ n)) = (L.take m).filter (fun c => decide (c.grp ≠ n)) ++ [⟨ci, cg, ck, cs⟩] := by
                rw [htk.out, List.filter_append, List.filter_cons_of_pos (by simpa using q.out)]
                simp
              replace hf2 := Lib.hid hf2
              generalize (L.take m).filter (fun c => decide (c.grp ≠ n)) = F2 at *
              go_wp2_with (at_builtin; refine wpList_cat rfl (.tmp 68) (.tmp 76) 81 rfl w2.heap.size 75 i2 _ 4 40 Tryz.underlying81 hi2 hz6 hz7 hz8 rfl (by decide) _ _ rfl (hownC.keep ((Below.refl _ _).alloc (Nat.le_refl _) _) (Nat.le_refl _)) _ _ [ccells ⟨ci, cg, ck, cs⟩] rfl (Blk.oneSlot (t := 75) (c := #[.int .i64 ci, .int .i64 cg, .string ⟨ck.toArray⟩, .bool cs]) (Blk.new _ _ _)) (crow_sizes (L := [⟨ci, cg, ck, cs⟩])) (crow_ones (L := [⟨ci, cg, ck, cs⟩])) (by simp only [maxLen, List.length_cons, List.length_nil]; omega) (by simp only [List.length_cons, List.length_nil]; omega) (by simp; omega) ?_; intro v2 wB hown2 hbB hgrB)
              have hown3 : OwnS wB w2.heap.size 75 4 v2 (((L.take (m + 1)).filter (fun c => decide (c.grp ≠ n))).map ccells) := by
                rw [hf2.out, List.map_append]
                exact hown2
              go_roundw
              case rel => exact ⟨m + 1, by omega, by go_num, hown3, (hbq.alloc (by omega) _).trans hbB⟩
              case measure => simp [intOf]; omega
          · rw [List.take_of_length_le (by omega)] at hownC
            obtain ⟨A4, c4, e4⟩ := hownC.form
            rw [List.length_map] at e4
            subst e4
            generalize hF2 : L.filter (fun c => decide (c.grp ≠ n)) = F2 at *
            have hG5 := (hown.keep hbq (Nat.le_refl _)).mono (show g + 1 ≤ w1.heap.size by omega)
            have hC5 := hownC.mono (show g + 1 ≤ w2.heap.size by omega)
            have hap : (Value.slice A4 F2.length c4).ownBlock = none ∨ (Value.slice A4 F2.length c4).ownBlock ≠ (Value.slice A3 F.length c3).ownBlock := by
              cases h1 : (Value.slice A4 F2.length c4).ownBlock with
              | none => exact Or.inl rfl
              | some y =>
                refine Or.inr (fun e => ?_)
                have e5 := (World.ownsRow.lt hownC.1 y h1).1
                have e6 := (World.ownsRow.lt hown.1 y e.symm).2
                omega
            have hB5 := hq.blk
            have hbw5 : OutR w wr g (Value.slice A G.length c).ownBlock (Value.slice A2 L.length c2).ownBlock := hbw.then hbq
            have hl5 := hB5.lt
            have eG : G.filter (fun e => !decide (e.1 = n)) = F := by rw [← hF]; simp
            have eL : L.filter (fun c => !decide (c.grp = n)) = F2 := by rw [← hF2]; simp
            replace eG := Lib.hid eG
            replace eL := Lib.hid eL
            clear hF hF2 hown hownC hg hq hbr hbq
            go_wp2_with fail
            refine bodyPost_ret (v := (.int .i64 0)) (by simp only [results, Tryz.results75]; go_simp) rfl ?_
            rw [eG.out, eL.out]
            exact ⟨⟨rfl, (hbw5.setCell (p := ⟨g, 0, none⟩) (Or.inl rfl) _).setCell (p := ⟨g, 1, none⟩) (Or.inl rfl) _⟩, .slice A3 F.length c3, .slice A4 F2.length c4, (hB5.set_ 0 _).set_ 1 _, (hG5.set (p := ⟨g, 0, none⟩) (Nat.lt_succ_self g) _).set (p := ⟨g, 1, none⟩) (Nat.lt_succ_self g) _, (hC5.set (p := ⟨g, 0, none⟩) (Nat.lt_succ_self g) _).set (p := ⟨g, 1, none⟩) (Nat.lt_succ_self g) _, hap⟩
end Go.Proofs.YtbafofldgkigmaaGreatDoor
