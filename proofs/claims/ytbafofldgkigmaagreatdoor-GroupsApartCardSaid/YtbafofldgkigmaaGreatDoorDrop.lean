/- groups: Drop, Find. -/
import Derived.Test.YtbafofldgkigmaaGreatDoorDrop0
import Derived.Test.YtbafofldgkigmaaGreatDoorGs
namespace Go.Proofs.YtbafofldgkigmaaGreatDoor
open Go.RowKit
attribute [local irreducible] Calls
theorem heap_put (w : World) (r : Nat) (o : Obj) (j : Nat) (h : j ≠ r) : (w.drew.putObj r o).heap[j]? = w.heap[j]? := by
  have : w.drew.heap = w.heap := rfl
  simp [World.putObj, Ne.symm h, this]
/-- The program's groups, with the plain state. -/
def GP (w : World) (g r s t : Nat) (S : Gl.Gs) : Prop := GSt w g r s t S.most S.lg S.ln S.G (S.L.map Gl.cEnt) (S.L.map Gl.aEnt)
def keepD (n : Int) (left : Int → Bool) (c : Gl.Cluster) : Bool := decide (c.grp ≠ n) || left c.id
theorem ids_nodup {L : List Gl.Cluster} (h : L.Pairwise (fun a b => a.id < b.id)) : ((L.map Gl.cEnt).map (·.1)).Nodup := by
  rw [List.map_map]
  refine List.pairwise_map.2 (h.imp ?_)
  intro a b hab
  show a.id ≠ b.id
  omega
theorem places_nodup {L : List Gl.Cluster} (h : L.Pairwise (fun a b => ¬(a.grp = b.grp ∧ a.key = b.key))) : ((L.map Gl.aEnt).map (fun e => (e.1, e.2.1))).Nodup := by
  rw [List.map_map]
  refine List.pairwise_map.2 (h.imp ?_)
  intro a b hab e
  injection e with e1 e2
  exact hab ⟨e1, e2⟩
theorem groups_nodup {G : List (Int × Bool)} (h : G.Pairwise (fun a b => a.1 < b.1)) : (G.map (·.1)).Nodup := List.pairwise_map.2 (h.imp (fun hab => by omega))
theorem keep_start (n : Int) (L : List Gl.Cluster) : L.filter (keepD n (fun _ => true)) = L := by
  rw [List.filter_eq_self]
  intro c _
  simp [keepD]
theorem keep_end (n : Int) (L : List Gl.Cluster) (left : Int → Bool) (h : ∀ e ∈ (L.filter (keepD n left)).map Gl.cEnt, left e.1 = false) : L.filter (keepD n left) = L.filter (fun c => decide (c.grp ≠ n)) := by
  refine List.filter_congr fun c hc => ?_
  unfold keepD
  cases hq : left c.id
  · simp
  · have : c ∈ L.filter (keepD n left) := List.mem_filter.2 ⟨hc, by simp [keepD, hq]⟩
    have := h _ (List.mem_map.2 ⟨c, this, rfl⟩)
    rw [show (Gl.cEnt c).1 = c.id from rfl, hq] at this
    cases this
theorem keep_stays (n : Int) (L : List Gl.Cluster) (left : Int → Bool) (c : Gl.Cluster) (hp : L.Pairwise (fun a b => a.id < b.id)) (hc : c ∈ L) (hn : c.grp ≠ n) : L.filter (keepD n left) = L.filter (keepD n (fun m => left m && decide (m ≠ c.id))) := by
  refine List.filter_congr fun d hd => ?_
  unfold keepD
  by_cases q : d.id = c.id
  · have h1 := find_id hp hc
    have h2 := find_id hp hd
    rw [q, h1] at h2
    injection h2 with h2
    subst h2
    simp [hn]
  · simp [q]
theorem keep_struck (n : Int) (L : List Gl.Cluster) (left : Int → Bool) (c : Gl.Cluster) (_ : c.grp = n) : ((L.filter (keepD n left)).map Gl.cEnt).filter (fun e => decide (e.1 ≠ c.id)) = (L.filter (keepD n (fun m => left m && decide (m ≠ c.id)))).map Gl.cEnt ∨ ∃ d ∈ L, d.grp ≠ n ∧ d.id = c.id := by
  by_cases q : ∃ d ∈ L, d.grp ≠ n ∧ d.id = c.id
  · exact Or.inr q
  · refine Or.inl ?_
    rw [List.filter_map, List.filter_filter]
    congr 1
    refine List.filter_congr fun d hd => ?_
    show (decide (d.id ≠ c.id) && keepD n left d) = _
    unfold keepD
    by_cases q1 : d.id = c.id
    · have : d.grp = n := Classical.byContradiction fun h => q ⟨d, hd, h, q1⟩
      simp [q1, this]
    · simp [q1]
theorem keep_places (n : Int) (L : List Gl.Cluster) (left : Int → Bool) (c : Gl.Cluster) (hp : L.Pairwise (fun a b => a.id < b.id)) (hq : L.Pairwise (fun a b => ¬(a.grp = b.grp ∧ a.key = b.key))) (hc : c ∈ L) (hn : c.grp = n) :
    ((L.filter (keepD n left)).map Gl.aEnt).filter (fun e => decide (¬(e.1 = c.grp ∧ e.2.1 = c.key))) = (L.filter (keepD n (fun m => left m && decide (m ≠ c.id)))).map Gl.aEnt := by
  rw [List.filter_map, List.filter_filter]
  congr 1
  refine List.filter_congr fun d hd => ?_
  show (decide (¬(d.grp = c.grp ∧ d.key = c.key)) && keepD n left d) = _
  unfold keepD
  have one : (d.grp = c.grp ∧ d.key = c.key) ↔ d.id = c.id := by
    constructor
    · intro h
      have h1 : L.find? (fun x => decide (x.grp = c.grp ∧ x.key = c.key)) = some c ∧ L.find? (fun x => decide (x.grp = c.grp ∧ x.key = c.key)) = some d := by
        clear hp
        induction L with
        | nil => simp at hc
        | cons a r ih =>
          obtain ⟨g1, g2⟩ := List.pairwise_cons.1 hq
          rw [List.find?_cons]
          rcases List.mem_cons.1 hc with e1 | hc1
          · rcases List.mem_cons.1 hd with e2 | hd1
            · rw [e1, e2]
              simp
            · exact absurd (e1 ▸ ⟨h.1.symm, h.2.symm⟩) (g1 d hd1)
          · rcases List.mem_cons.1 hd with e2 | hd1
            · exact absurd (e2 ▸ h) (g1 c hc1)
            · rw [show decide (a.grp = c.grp ∧ a.key = c.key) = false by simp only [decide_eq_false_iff_not]; exact g1 c hc1]
              exact ih g2 hc1 hd1
      rw [h1.1] at h1
      injection h1.2 with h2
      rw [h2]
    · intro h
      have h1 := find_id hp hc
      have h2 := find_id hp hd
      rw [h, h1] at h2
      injection h2 with h2
      rw [h2]
      exact ⟨rfl, rfl⟩
  by_cases q1 : d.id = c.id
  · have := one.2 q1
    simp [q1, this.1, this.2, hn]
  · have : ¬(d.grp = c.grp ∧ d.key = c.key) := fun h => q1 (one.1 h)
    rw [decide_eq_true this]
    simp [q1]
theorem del_places' (w : World) (t : Nat) (A : List (Int × List UInt8 × Int)) (h : Mp w t (placesE A)) (hn : (A.map (fun e => (e.1, e.2.1))).Nodup) (n : Int) (key : List UInt8) (ty : TypeId) :
    ∃ o, (∀ q, (Builtin.delete_ #[130, 149] ty #[.map (some t), .agg #[.int .i64 n, .string ⟨key.toArray⟩]]).run Tryz.prog (w.drewN q) = .ok (.tuple #[]) ((w.drewN q).putObj t o)) ∧ ∀ W : World, W.heap.size = w.heap.size → Mp (W.putObj t o) t (placesE (A.filter (fun e => decide (¬(e.1 = n ∧ e.2.1 = key))))) := by
  obtain ⟨es, clock, h1, h2, h3⟩ := h
  have hlt := (Array.getElem?_eq_some_iff.1 h1).1
  obtain ⟨f1, f2⟩ := findPlace_erase n key A 0 hn
  have hrun := fun q => run_del (P := Tryz.prog) (w.drewN q) 130 149 3 ty t (placeV n key) es clock _ Tryz.underlying130 h1 (run_place_check (w.drewN q) n key) (run_find_place (w.drewN q) n key A es.toList h2)
  cases hq : findPlace n key A 0 with
  | none =>
    rw [hq] at hrun
    refine ⟨_, hrun, fun W hW => ⟨es, clock, by simp [World.putObj, hW, hlt, erased], ?_, h3⟩⟩
    rw [f1 hq]
    exact h2
  | some x =>
    obtain ⟨j, v⟩ := x
    rw [hq] at hrun
    obtain ⟨i, rfl, hi, he⟩ := f2 j v hq
    have hsz : es.size = A.length := by
      have := congrArg List.length h2
      simpa [placesE] using this
    have his : 0 + i < es.size := by omega
    refine ⟨_, hrun, fun W hW => ⟨es.eraseIdxIfInBounds (0 + i), clock, by simp [World.putObj, hW, hlt, erased], ?_, h3.erase _ his⟩⟩
    rw [erase_list es _ his, Nat.zero_add, map_erase, h2]
    show (placesE A).eraseIdx i = _
    unfold placesE
    rw [← map_erase, he]
theorem GP.isolated {w : World} {g r s t : Nat} {S : Gl.Gs} (h : GP w g r s t S) (n : Int) : Calls Tryz.prog 37 #[.pointer (some ⟨g, 0, none⟩), .int .i64 n] w (Ret w (.tuple #[.bool (Gl.isolated S.G n).1, .int .i64 (Gl.isolated S.G n).2])) := groups_isolated w g r s t _ _ _ n _ _ _ h
set_option maxHeartbeats 4000000 in
set_option maxRecDepth 100000 in
theorem groups_drop (w : World) (g r s t : Nat) (S : Gl.Gs) (k : Int) (hok : S.Ok k) (h : GP w g r s t S) (n : Int) :
    Calls Tryz.prog 44 #[.pointer (some ⟨g, 0, none⟩), .int .i64 n] w (fun e w' => (e = .returned (.int .i64 (S.dropG n).2) ∧ But [r, s, t, g] w w') ∧ GP w' g r s t (S.dropG n).1) := by
  have hi := h.isolated n
  unfold Gl.isolated at hi
  unfold Gl.Gs.dropG
  have hcid := ids_nodup hok.c
  have hgn := groups_nodup hok.g
  have hokc := hok.c
  have hokp := hok.pl
  cases hn : Gl.lookB S.G n with
  | none =>
    rw [hn] at hi
    have hlt := h.blk.lt
    go_enter Tryz.func44, Tryz.ntmps44
    go_wp2_with fail
    refine hi.mono ?_
    rintro e w1 ⟨rfl, hb⟩
    go_wp2_with fail
    refine bodyPost_ret (v := (.int .i64 170)) (by simp only [results, Tryz.results44]; go_simp) rfl ?_
    exact ⟨⟨rfl, But.ofBelow hb⟩, GSt.below h hb⟩
  | some iso =>
    rw [hn] at hi
    obtain ⟨most, lg, ln, G, L⟩ := S
    simp only at hcid hgn hokc hokp hi
    unfold GP at h
    simp only at h
    have hlt := h.blk.lt
    have h1 := h.rs
    have h2 := h.st
    have h3 := h.tg
    go_enter Tryz.func44, Tryz.ntmps44
    go_wp2_with fail
    refine hi.mono ?_
    rintro e w1 ⟨rfl, hb0⟩
    have hg1 := h.below hb0
    obtain ⟨w2, hd, ⟨o, z2⟩, hmr2⟩ := del_groups w1 r G hg1.mr hgn n 0
    have hB2 : Blk w2 g 137 #[.int .i64 most, .int .i64 lg, .int .i64 ln, .map (some r), .map (some s), .map (some t)] := by rw [z2]; exact hg1.blk.putObj (by omega) _
    have hms2 : Mp w2 s (clustersE (L.map Gl.cEnt)) := by rw [z2]; exact hg1.ms.putObj (by omega) _
    have hmt2 : Mp w2 t (placesE (L.map Gl.aEnt)) := by rw [z2]; exact hg1.mt.putObj (by omega) _
    have hbut2 : But [r, s, t, g] w w2 := by rw [z2]; exact (But.ofBelow hb0).putObj (by simp) _
    have hsz2 : w2.heap.size = w1.heap.size := by rw [z2]; simp [World.putObj]
    clear z2
    obtain ⟨w3, hr, ⟨o3, z3⟩, hgo3⟩ := going_range w2 s _ hms2
    have hB3 : Blk w3 g 137 #[.int .i64 most, .int .i64 lg, .int .i64 ln, .map (some r), .map (some s), .map (some t)] := by rw [z3]; exact hB2.alloc _
    have hmr3 : Mp w3 r (groupsE (G.filter (fun e => decide (e.1 ≠ n)))) := by rw [z3]; exact hmr2.alloc _
    have hmt3 : Mp w3 t (placesE (L.map Gl.aEnt)) := by rw [z3]; exact hmt2.alloc _
    have hbut3 : But [r, s, t, g] w w3 := by rw [z3]; exact hbut2.trans (But.ofBelow ((Below.refl _ _).alloc (Nat.le_refl _) _))
    have hrI : g < w2.heap.size := hB2.lt
    have hwI : w.heap.size ≤ w2.heap.size := hbut2.size
    have hI3 : w2.heap.size < w3.heap.size := by rw [z3]; simp
    clear z3 hsz2
    generalize w2.heap.size = rI at *
    have c1 := hg1.blk.cell
    have f1 := hg1.blk.frozen
    have c2 := hB2.cell
    have f2 := hB2.frozen
    go_wp2_with fail
    clear c1 f1 c2 f2 hB2 hms2 hmt2 hmr2 hbut2 hg1 hb0 hi h hok
    replace hcid := Lib.hid hcid
    replace hgn := Lib.hid hgn
    replace hn := Lib.hid hn
    go_loopw [7] (fun _ wr => ∃ (left : Int → Bool) (cnt : Nat), Going wr s rI ((L.filter (keepD n left)).map Gl.cEnt) left cnt ∧ Mp wr t (placesE ((L.filter (keepD n left)).map Gl.aEnt)) ∧ Mp wr r (groupsE (G.filter (fun e => decide (e.1 ≠ n)))) ∧ Blk wr g 137 #[.int .i64 most, .int .i64 lg, .int .i64 ln, .map (some r), .map (some s), .map (some t)] ∧ But [r, s, t, g] w wr) (fun _ wr => wr.rangeLeft s rI)
    case atStart => exact ⟨fun _ => true, _, by rw [keep_start]; exact hgo3, by rw [keep_start]; exact hmt3, hmr3, hB3, hbut3⟩
    case round =>
      clear hd hr hgo3 hmt3 hmr3 hB3 hbut3
      obtain ⟨left, cnt, hgo, hmt, hmr, hB, hbut⟩ := hrel
      have hsub : ((L.filter (keepD n left)).map Gl.cEnt).map (·.1) |>.Nodup := ids_nodup (hokc.filter _)
      have hmeas := hgo.left_eq
      rcases going_next hgo hsub 0 with ⟨h0, hl, hnx⟩ | ⟨e, he, hle, w4, cnt4, hnx, hgo4, hlt4, hbut4, hsz4, hen⟩
      · have hend := keep_end n L left hl
        rw [hend] at hgo hmt
        have hmp := hgo.mp
        clear hl hgo hend hsub
        go_wp2_with fail
        refine bodyPost_ret (v := (.int .i64 0)) (by simp only [results, Tryz.results44]; go_simp) rfl ?_
        exact ⟨⟨rfl, hbut⟩, hB, hmr, hmp, hmt, h1, h2, h3⟩
      · obtain ⟨c, hc, rfl⟩ := List.mem_map.1 he
        have hcL := (List.mem_filter.1 hc).1
        change Going w4 s rI _ (fun m => left m && decide (m ≠ c.id)) cnt4 at hgo4
        dsimp only [Gl.cEnt, Gl.clusterV] at hnx hen hle
        have hrI2 := hgo.lt.2.1
        have hmt4 : Mp w4 t (placesE ((L.filter (keepD n left)).map Gl.aEnt)) := hmt.at_ (hbut4.block t hmt.lt (by simp; omega))
        have hmr4 : Mp w4 r (groupsE (G.filter (fun e => decide (e.1 ≠ n)))) := hmr.at_ (hbut4.block r hmr.lt (by simp; omega))
        have hB4 : Blk w4 g 137 #[.int .i64 most, .int .i64 lg, .int .i64 ln, .map (some r), .map (some s), .map (some t)] := (hbut4.block g hB.lt (by simp; omega)).trans hB
        have hbw4 : But [r, s, t, g] w w4 := ⟨hbut4.os.trans hbut.os, hbut4.tape.trans hbut.tape, hbut4.output.trans hbut.output, Nat.le_trans hbut.size hbut4.size, fun j hj hn => (hbut4.block j (Nat.lt_of_lt_of_le hj hbut.size) (by simp; omega)).trans (hbut.block j hj hn)⟩
        have hst := keep_stays n L left c hokc hcL
        have hsk := keep_struck n L left c
        have hpl := keep_places n L left c hokc hokp hcL
        generalize hL1 : L.filter (keepD n left) = L1 at *
        generalize hL2 : L.filter (keepD n fun m => left m && decide (m ≠ c.id)) = L2 at *
        have hnod : ((L1.map Gl.aEnt).map (fun e => (e.1, e.2.1))).Nodup := by rw [← hL1]; exact places_nodup (hokp.filter _)
        have hoth : ∀ d ∈ L, d.grp ≠ n → d.id = c.id → c.grp ≠ n := fun d hd h1 h2 h3 => by
          have e1 := find_id hokc hcL
          have e2 := find_id hokc hd
          rw [h2, e1] at e2
          injection e2 with e2
          exact h1 (e2 ▸ h3)
        replace hst := Lib.hid hst
        replace hsk := Lib.hid hsk
        replace hpl := Lib.hid hpl
        replace hnod := Lib.hid hnod
        replace hsub := Lib.hid hsub
        replace hL1 := Lib.hid hL1
        replace hL2 := Lib.hid hL2
        replace hoth := Lib.hid hoth
        have hrI4 := hgo4.lt.2.1
        clear hgo hmt hmr hB hbut hbut4 he hle hsz4 hc
        obtain ⟨ci, cg, ck, cs⟩ := c
        dsimp only at hst hsk hpl hoth hnx hen hgo4 hL2
        go_upto_region 8 with fail
        generalize hW5 : w4.alloc (Obj.cells #[.int .i64 ci, .int .i64 cg, .string ⟨ck.toArray⟩, .bool cs] 75) = W5
        have hN5 : Blk W5 w4.heap.size 75 #[.int .i64 ci, .int .i64 cg, .string ⟨ck.toArray⟩, .bool cs] := by rw [← hW5]; exact Blk.new _ _ _
        have hgo5 : Going W5 s rI (L1.map Gl.cEnt) (fun m => left m && decide (m ≠ ci)) cnt4 := by rw [← hW5]; exact hgo4.at_ (heap_alloc_old _ _ hgo4.lt.1) (heap_alloc_old _ _ hrI4)
        have hmt5 : Mp W5 t (placesE (L1.map Gl.aEnt)) := by rw [← hW5]; exact hmt4.alloc _
        have hmr5 : Mp W5 r (groupsE (G.filter (fun e => decide (e.1 ≠ n)))) := by rw [← hW5]; exact hmr4.alloc _
        have hB5 : Blk W5 g 137 #[.int .i64 most, .int .i64 lg, .int .i64 ln, .map (some r), .map (some s), .map (some t)] := by rw [← hW5]; exact hB4.alloc _
        have hbw5 : But [r, s, t, g] w W5 := by rw [← hW5]; exact hbw4.trans (But.ofBelow ((Below.refl _ _).alloc (Nat.le_refl _) _))
        clear hW5 hgo4 hmt4 hmr4 hB4 hbw4
        generalize w4.heap.size = gN at *
        have c5 := hN5.cell
        have f5 := hN5.frozen
        have b5 := hB5.cell
        have bf5 := hB5.frozen
        by_cases q : cg = n
        case neg =>
          have q2 : (cg == n) = false := by rw [beq_eq_false_iff_ne]; exact q
          replace q := Lib.hid q
          go_wp2_with fail
          go_roundw
          case rel => exact ⟨_, cnt4, by rw [hL2.out, ← hst.out q.out]; exact hgo5, by rw [hL2.out, ← hst.out q.out]; exact hmt5, hmr5, hB5, hbw5⟩
          case measure => rw [hgo5.left_eq, hmeas]; exact hlt4
        case pos =>
          obtain ⟨W6, cnt6, hd6, ⟨o6, z6⟩, hgo6, hle6⟩ := hgo5.drop hsub.out ci 0
          have e6 : (L1.map Gl.cEnt).filter (fun e => decide (e.1 ≠ ci)) = L2.map Gl.cEnt := by
            rcases hsk.out q with e | ⟨d, hd, h1, h2⟩
            · exact e
            · exact absurd q (hoth.out d hd h1 h2)
          rw [e6] at hgo6
          have hN6 : Blk W6 gN 75 #[.int .i64 ci, .int .i64 cg, .string ⟨ck.toArray⟩, .bool cs] := by rw [z6]; exact hN5.putObj (by omega) _
          have hmt6 : Mp W6 t (placesE (L1.map Gl.aEnt)) := by rw [z6]; exact hmt5.putObj (by omega) _
          have hmr6 : Mp W6 r (groupsE (G.filter (fun e => decide (e.1 ≠ n)))) := by rw [z6]; exact hmr5.putObj (by omega) _
          have hB6 : Blk W6 g 137 #[.int .i64 most, .int .i64 lg, .int .i64 ln, .map (some r), .map (some s), .map (some t)] := by rw [z6]; exact hB5.putObj (by omega) _
          have hbw6 : But [r, s, t, g] w W6 := by rw [z6]; exact hbw5.putObj (by simp) _
          clear z6
          obtain ⟨o7, hd7, hm7⟩ := del_places' W6 t _ hmt6 hnod.out cg ck 0
          rw [hpl.out q] at hm7
          have c6 := hN6.cell
          have f6 := hN6.frozen
          have b6 := hB6.cell
          have bf6 := hB6.frozen
          have q2 : (cg == n) = true := by rw [beq_iff_eq]; exact q
          replace q := Lib.hid q
          replace e6 := Lib.hid e6
          have hd8 : (Builtin.delete_ #[130, 149] 0 #[.map (some t), .agg #[.int .i64 cg, .string ⟨ck.toArray⟩]]).run Tryz.prog W6.drew = .ok (.tuple #[]) (W6.drew.putObj t o7) := hd7 1
          clear hd7 hmt6
          go_wp2_with fail
          go_region_held3 (fun W => (∀ n0, W.cell? ⟨g, n0, none⟩ = (#[.int .i64 most, .int .i64 lg, .int .i64 ln, .map (some r), .map (some s), .map (some t)] : Array Value)[n0]?) ∧ (∀ n0, W.cell? ⟨gN, n0, none⟩ = (#[.int .i64 ci, .int .i64 cg, .string ⟨ck.toArray⟩, .bool cs] : Array Value)[n0]?)) ((refine ⟨fun n0 => Blk.cell (t := 137) (by first | exact hB6.drew_.putObj (by omega) _ | exact hB6.drew_ | exact hB6) n0, fun n0 => Blk.cell (t := 75) (by first | exact hN6.drew_.putObj (by omega) _ | exact hN6.drew_ | exact hN6) n0⟩)) (fail)
          go_wp2_with fail
          go_roundw
          case rel => exact ⟨_, cnt6, by rw [hL2.out]; exact hgo6.at_ (heap_put _ _ _ _ (by omega)) (heap_put _ _ _ _ (by omega)), by rw [hL2.out]; exact hm7 W6.drew rfl, hmr6.at_ (heap_put _ _ _ _ (by omega)), hB6.drew_.putObj (by omega) _, (hbw6.trans (But.ofBelow (bw_))).putObj (by simp) _⟩
          case measure => 
            have hgo8 : Going (W6.drew.putObj t o7) s rI (L2.map Gl.cEnt) (fun m => left m && decide (m ≠ ci)) cnt6 := hgo6.at_ (heap_put _ _ _ _ (by omega)) (heap_put _ _ _ _ (by omega))
            rw [hgo8.left_eq, hmeas]
            omega
end Go.Proofs.YtbafofldgkigmaaGreatDoor
