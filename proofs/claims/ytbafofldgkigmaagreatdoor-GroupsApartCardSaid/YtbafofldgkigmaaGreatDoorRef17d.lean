/- glacisref17: Cluster. -/
import Derived.Test.YtbafofldgkigmaaGreatDoorRef17c
namespace Go.Proofs.YtbafofldgkigmaaGreatDoor
open Go.RowKit
attribute [local irreducible] Calls
theorem OwnS.away {w : World} {B n : Nat} {t : TypeId} {v : Value} {L : List (Array Value)} (h : OwnS w B t n v L) {p : Addr} (hp : v.ownBlock ≠ some p.block) (u : Value) : OwnS (w.setCell p u) B t n v L :=
  ⟨World.ownsRow.kept h.1 (row := some p.block) ⟨rfl, rfl, rfl, by simp, fun k _ hne => Below.heap_setCell _ _ _ _ (fun e => hne (by rw [e]))⟩ (Or.inr hp), h.2⟩
set_option maxHeartbeats 8000000 in
set_option maxRecDepth 100000 in
theorem ref17_cluster (w : World) (g : Nat) (vG vC : Value) (S : Gl.Gs) (k : Int) (hok : S.Ok k) (hk : k ≤ 1000000) (h : RSt w g vG vC S) (n : Int) (o : Gl.Origin) (v : Value) (U : List (List UInt8)) (hv : Sufs w v U) (hE : Env w) (ho : OWide o) (hid : -9223372036854775808 ≤ o.id ∧ o.id ≤ 9223372036854775807) :
    Calls Tryz.prog 76 #[.pointer (some ⟨g, 0, none⟩), .int .i64 n, (Value.agg #[(Value.bool (o).opaq), (Value.int .i64 (o).id), (Value.string ⟨((o).scheme).toArray⟩), (Value.string ⟨(((o).host).name).toArray⟩), (Value.bool ((o).host).v4), (Value.int .u32 (((o).host).addr : Int)), (Value.int .i64 (o).port)]), v] w (fun e w' => (e = .returned (.tuple #[.agg (ccells (S.cluster n o U).2.1), .int .i64 (S.cluster n o U).2.2]) ∧ OutR w w' g vG.ownBlock vC.ownBlock) ∧ ∃ vC', RSt w' g vG vC' (S.cluster n o U).1) := by
  have hi := fun (W : World) (hW : Below w.heap.size w W) => ref17_isolated W g vG vC S k hok (h.below hW) n
  unfold Gl.isolated at hi
  unfold Gl.Gs.cluster
  have hl0 := h.blk.lt
  have hky := fun (iso : Bool) (W : World) (hW : Below w.heap.size w W) => ref17_key o iso v U W (hE.below hW) ho hid (hv.below hW)
  obtain ⟨vA, vc, rfl, _, _, _⟩ := hv.strs
  cases hn : Gl.lookB S.G n with
  | none =>
    rw [hn] at hi
    clear hky
    go_enter Tryz.func76, Tryz.ntmps76
    go_wp2_with (go_at_call 38; refine (hi _ (bw_)).mono ?_; rintro e w1 ⟨rfl, hb⟩; obtain ⟨hc, hfz⟩ := bcell hb; have hz := hb.size; (try simp at hz); (try have hz0 := lt_ hb w.heap.size); (try have hz1 := lt_ hb (w.heap.size + 1)); (try have hz2 := lt_ hb (w.heap.size + 2)); (try have hz3 := lt_ hb (w.heap.size + 3)); (try have hcA := fun o => hc w.heap.size o sz_); (try have hcB := fun o => hc (w.heap.size + 1) o sz_); (try (have i := cf_ hb g; obtain ⟨hcGg, hfGg, hzGg⟩ := i)))
    refine bodyPost_ret (v := (.tuple #[(.agg #[.int .i64 0, .int .i64 0, .string ⟨#[]⟩, .bool false]), .int .i64 170])) (by simp only [results, Tryz.results76]; go_simp) rfl ?_
    refine (fun hbb => ⟨⟨rfl, OutR.ofBelow hbb⟩, _, h.below hbb⟩ : Below w.heap.size w _ → _) ?_
    (exact bw_)
  | some iso =>
    rw [hn] at hi
    replace hky := hky iso
    unfold Gl.Gs.findK
    simp only
    generalize Gl.keyOf o iso U = key at *
    obtain ⟨⟨A, c, rfl⟩, A2, c2, rfl⟩ := h.form
    have hcm := hok.cm
    have hm2 := hok.m2
    have hm1 := hok.m1
    have hln0 := hok.ln0
    have hlnk := hok.lnk
    obtain ⟨i2, hi2, hz6, hz7, hz8⟩ := info_parts Tryz.infoCluster
    obtain ⟨most, lg, ln, G, L⟩ := S
    simp only at *
    have hres : (L.drop 0).find? (fun c => decide (c.grp = n ∧ c.key = key)) = L.find? (fun c => decide (c.grp = n ∧ c.key = key)) := by rw [List.drop_zero]
    generalize L.find? (fun c => decide (c.grp = n ∧ c.key = key)) = R at *
    replace hres := Lib.hid hres
    replace hi := Lib.hid hi
    replace hky := Lib.hid hky
    clear hn hok hv
    go_enter Tryz.func76, Tryz.ntmps76
    go_upto_region 1 with fail
    generalize hW0 : ((w.alloc (Obj.cells #[(Value.bool (o).opaq), (Value.int .i64 (o).id), (Value.string ⟨((o).scheme).toArray⟩), (Value.string ⟨(((o).host).name).toArray⟩), (Value.bool ((o).host).v4), (Value.int .u32 (((o).host).addr : Int)), (Value.int .i64 (o).port)] 35)).alloc (Obj.cells #[.int .i64 0, .int .i64 0, .string ⟨#[]⟩, .bool false] 75)) = W0
    have hw0 : Below w.heap.size w W0 := by rw [← hW0]; (exact bw_)
    have hO : Blk W0 w.heap.size 35 #[(Value.bool (o).opaq), (Value.int .i64 (o).id), (Value.string ⟨((o).scheme).toArray⟩), (Value.string ⟨(((o).host).name).toArray⟩), (Value.bool ((o).host).v4), (Value.int .u32 (((o).host).addr : Int)), (Value.int .i64 (o).port)] := by rw [← hW0]; exact (Blk.new _ _ _).alloc _
    have hR0 : Blk W0 (w.heap.size + 1) 75 #[.int .i64 0, .int .i64 0, .string ⟨#[]⟩, .bool false] := by
      rw [← hW0]
      have := Blk.new (w.alloc (Obj.cells #[(Value.bool (o).opaq), (Value.int .i64 (o).id), (Value.string ⟨((o).scheme).toArray⟩), (Value.string ⟨(((o).host).name).toArray⟩), (Value.bool ((o).host).v4), (Value.int .u32 (((o).host).addr : Int)), (Value.int .i64 (o).port)] 35)) 75 #[.int .i64 0, .int .i64 0, .string ⟨#[]⟩, .bool false]
      rwa [show (w.alloc (Obj.cells #[(Value.bool (o).opaq), (Value.int .i64 (o).id), (Value.string ⟨((o).scheme).toArray⟩), (Value.string ⟨(((o).host).name).toArray⟩), (Value.bool ((o).host).v4), (Value.int .u32 (((o).host).addr : Int)), (Value.int .i64 (o).port)] 35)).heap.size = w.heap.size + 1 by simp] at this
    have hOl := hO.lt
    have hOc := hO.cell
    have hOf := hO.frozen
    have hRl := hR0.lt
    clear hW0
    have hB0 := (h.below hw0).blk.cell
    go_wp2_with fail
    refine (hi.out _ (bw_)).mono ?_
    rintro e wA ⟨rfl, hbA⟩
    have hOA := hO.below hbA hOl
    have hRA := hR0.below hbA hRl
    have hwA : Below w.heap.size w wA := hw0.trans (hbA.mono hw0.size)
    clear hO hOc hOf hB0
    have hOc := hOA.cell
    have hOf := hOA.frozen
    go_wp2_with fail
    refine (hky.out _ (bw_)).mono ?_
    rintro e w1 ⟨rfl, hbB⟩
    have hR1 := hRA.below hbB hRA.lt
    have hb1 : Below w.heap.size w w1 := hwA.trans (hbB.mono hwA.size)
    clear hOc hOf hOA hRA hwA hbA hbB
    have h1 := h.below hb1
    have hbg : Below g w w1 := hb1.mono (by omega)
    have hvG : ∀ y, (Value.slice A G.length c).ownBlock = some y → y < w.heap.size := fun y hy => (World.ownsRow.lt h.G.1 y hy).2
    have hvC : ∀ y, (Value.slice A2 L.length c2).ownBlock = some y → y < w.heap.size := fun y hy => (World.ownsRow.lt h.C.1 y hy).2
    generalize hgR : w.heap.size + 1 = gR at *
    have hgR2 : w.heap.size < gR := by omega
    clear hR0 hOl hRl hw0 hi hky hgR hE
    replace h := Lib.hid h
    replace hb1 := Lib.hid hb1
    replace hvG := Lib.hid hvG
    replace hvC := Lib.hid hvC
    have hc := h1.blk.cell
    have hf := h1.blk.frozen
    have hl1 := h1.blk.lt
    have hRc := hR1.cell
    have hRf := hR1.frozen
    have hRl := hR1.lt
    go_wp2_with fail
    go_loopw [13] (fun i wr => ∃ m : Nat, m ≤ L.length ∧ i = .int .i64 m ∧ wr = w1 ∧ Hid ((L.drop m).find? (fun c => decide (c.grp = n ∧ c.key = key)) = R)) (fun i _ => L.length - (intOf i).toNat)
    case atStart => exact ⟨0, Nat.zero_le _, rfl, rfl, hres⟩
    case round =>
      obtain ⟨m, hm, rfl, rfl, hr⟩ := hrel
      by_cases hmt : m < L.length
      · obtain ⟨sb, so, rfl, hsB, hcell⟩ := h1.ccell m hmt
        rw [drop_consX hmt, List.find?_cons] at hr
        simp only at hcell hsB
        generalize L[m] = x at *
        obtain ⟨ci, cg, ck, cs⟩ := x
        have c0 := hcell 0 (by decide)
        have c1 := hcell 1 (by decide)
        have c2 := hcell 2 (by decide)
        have c3 := hcell 3 (by decide)
        simp only [Nat.add_zero, ccells, List.getElem?_toArray, List.getElem?_cons_zero, List.getElem?_cons_succ] at c0 c1 c2 c3
        clear hcell
        by_cases q : cg = n
        · by_cases q3 : ck = key
          · rw [show decide (cg = n ∧ ck = key) = true by simp [q, q3]] at hr
            have hr := hr.out
            simp only at hr
            subst hr
            have q2 : (cg == n) = true := by rw [beq_iff_eq]; exact q
            have q4 : (ck == key) = true := by rw [beq_iff_eq]; exact q3
            replace q := Lib.hid q
            replace q3 := Lib.hid q3
            go_wp2
            refine bodyPost_ret (v := (.tuple #[(.agg #[.int .i64 ci, .int .i64 cg, .string ⟨ck.toArray⟩, .bool cs]), .int .i64 0])) (by simp only [results, Tryz.results76]; go_simp) rfl ?_
            refine (fun hbb => ⟨⟨rfl, OutR.ofBelow hbb⟩, _, h.out.below hbb⟩ : Below w.heap.size w _ → _) ?_
            exact (((hb1.out.setCell (p := ⟨gR, 0, none⟩) (Nat.le_of_lt hgR2) _).setCell (p := ⟨gR, 1, none⟩) (Nat.le_of_lt hgR2) _).setCell (p := ⟨gR, 2, none⟩) (Nat.le_of_lt hgR2) _).setCell (p := ⟨gR, 3, none⟩) (Nat.le_of_lt hgR2) _
          · rw [show decide (cg = n ∧ ck = key) = false by simp [q3]] at hr
            simp only at hr
            have q2 : (cg == n) = true := by rw [beq_iff_eq]; exact q
            have q4 : (ck == key) = false := by rw [beq_eq_false_iff_ne]; exact q3
            replace q := Lib.hid q
            replace q3 := Lib.hid q3
            go_wp2
            go_roundw
            case rel => exact ⟨m + 1, by omega, by go_num, trivial, hr⟩
            case measure => simp [intOf]; omega
        · rw [show decide (cg = n ∧ ck = key) = false by simp [q]] at hr
          simp only at hr
          have q2 : (cg == n) = false := by rw [beq_eq_false_iff_ne]; exact q
          replace q := Lib.hid q
          go_wp2
          go_roundw
          case rel => exact ⟨m + 1, by omega, by go_num, trivial, hr⟩
          case measure => simp [intOf]; omega
      · rw [List.drop_eq_nil_of_le (by omega)] at hr
        have hr := hr.out
        simp only [List.find?_nil] at hr
        subst hr
        have hw4 : IntKind.i64.wrap (4 * most) = 4 * most := by rw [IntKind.wrap_i64]; omega
        by_cases hfull : 4 * most ≤ L.length
        · go_upto_region 10 with fail
          go_quiet (fail)
          all_goals go_wp2_with fail
          refine bodyPost_ret (v := (.tuple #[(.agg #[.int .i64 0, .int .i64 0, .string ⟨#[]⟩, .bool false]), .int .i64 171])) (by simp only [results, Tryz.results76]; go_simp) rfl ?_
          refine (fun hbb => ⟨⟨rfl, OutR.ofBelow hbb⟩, _, h.out.below hbb⟩ : Below w.heap.size w _ → _) ?_
          have hb1 := hb1.out
          (exact bw_)
        · go_upto_region 10 with fail
          go_quiet (fail)
          go_upto_region 12 with fail
          have hbq : Below wr.heap.size wr (wr.drewN nq) := below_drewN (Below.refl _ _) nq
          have h2 := h1.below hbq
          have hR2 := hR1.drewN nq
          have hbw2 : OutR w (wr.drewN nq) g (Value.slice A G.length c).ownBlock (Value.slice A2 L.length c2).ownBlock := (OutR.ofBelow hb1.out).then hbq
          have hwz2 : w.heap.size ≤ (wr.drewN nq).heap.size := hbw2.size
          have hsz2 : gR < (wr.drewN nq).heap.size := hRl
          clear hc hf hRc hRf hRl hR1 h1 hl1 hbq hbg
          generalize wr.drewN nq = W at *
          have hc := h2.blk.cell
          have hf := h2.blk.frozen
          have hl2 := h2.blk.lt
          go_upto_region 14 with fail
          generalize hW5 : (W.setCell ⟨g, 4, none⟩ (.int .i64 (ln + 1 + 1))).alloc (Obj.cells #[.int .i64 (ln + 1), .int .i64 n, .string ⟨key.toArray⟩, .bool iso] 75) = W5
          have hsz5 : (W.setCell ⟨g, 4, none⟩ (.int .i64 (ln + 1 + 1))).heap.size = W.heap.size := by simp
          have hN5 : Blk W5 W.heap.size 75 #[.int .i64 (ln + 1), .int .i64 n, .string ⟨key.toArray⟩, .bool iso] := by
            rw [← hW5]
            have := Blk.new (W.setCell ⟨g, 4, none⟩ (.int .i64 (ln + 1 + 1))) 75 #[.int .i64 (ln + 1), .int .i64 n, .string ⟨key.toArray⟩, .bool iso]
            rwa [hsz5] at this
          have hB5 : Blk W5 g 89 #[.slice A G.length c, .slice A2 L.length c2, .int .i64 most, .int .i64 (lg + 1), .int .i64 (ln + 1 + 1)] := by rw [← hW5]; exact (h2.blk.set_ 4 _).alloc _
          have hR5 : Blk W5 gR 75 #[.int .i64 0, .int .i64 0, .string ⟨#[]⟩, .bool false] := by rw [← hW5]; exact (hR2.far (by simp; omega) _).alloc _
          have hG5 : OwnS W5 (g + 1) 141 2 (.slice A G.length c) (G.map gcells) := by rw [← hW5]; exact (h2.G.set (p := ⟨g, 4, none⟩) (Nat.lt_succ_self g) _).keep ((Below.refl _ _).alloc (Nat.le_refl _) _) (Nat.le_refl _)
          have hC5 : OwnS W5 (g + 1) 75 4 (.slice A2 L.length c2) (L.map ccells) := by rw [← hW5]; exact (h2.C.set (p := ⟨g, 4, none⟩) (Nat.lt_succ_self g) _).keep ((Below.refl _ _).alloc (Nat.le_refl _) _) (Nat.le_refl _)
          have hap := h2.apart
          have hbw5 : OutR w W5 g (Value.slice A G.length c).ownBlock (Value.slice A2 L.length c2).ownBlock := by rw [← hW5]; exact (hbw2.setCell (p := ⟨g, 4, none⟩) (Or.inl rfl) _).then ((Below.refl _ _).alloc (Nat.le_refl _) _)
          have hgN : gR < W.heap.size := hsz2
          clear hc hf h2 hR2 hbw2 hW5 hsz5 hsz2
          generalize W.heap.size = gN at *
          have hc := hB5.cell
          have hf := hB5.frozen
          have hNc := hN5.cell
          have hNf := hN5.frozen
          have hl5 := hB5.lt
          have hNl := hN5.lt
          have hLl : (L.map ccells).length = L.length := by simp
          go_region_law ((refine step_cat_at rfl (.tmp 98) (.tmp 100) 81 rfl (g + 1) 75 i2 _ 4 40 Tryz.underlying81 hi2 hz6 hz7 hz8 rfl (by decide) _ _ rfl (hC5.keep (((Below.refl W5.heap.size W5).drew).alloc (Nat.le_refl _) _) (Nat.le_refl _)) _ _ [ccells ⟨ln + 1, n, key, iso⟩] rfl (Blk.oneSlot (t := 75) (c := #[.int .i64 (ln + 1), .int .i64 n, .string ⟨key.toArray⟩, .bool iso]) (Blk.new _ _ _)) (crow_sizes (L := [⟨ln + 1, n, key, iso⟩])) (crow_ones (L := [⟨ln + 1, n, key, iso⟩])) (by rw [hLl]; simp [maxLen]; omega) (by rw [hLl]; simp; omega) (by simp; omega) ?_; intro v2 wB hown2 hbB hgrB hwhB; obtain ⟨A5, c5, hv2⟩ := hown2.form; rw [List.length_append, hLl, show [ccells ⟨ln + 1, n, key, iso⟩].length = 1 from rfl] at hv2; subst hv2; have hBB := (hB5.drew_.alloc _).below hbB (by omega); have hcB := hBB.cell; have hfB := hBB.frozen; have hlB := hBB.lt))
          all_goals
            have hk6 := ((Below.refl W5.heap.size W5).drew).alloc (Nat.le_refl _) (Obj.cells #[.int .i64 (ln + 1), .int .i64 n, .string ⟨key.toArray⟩, .bool iso] 75)
            have hnN : (Value.slice A2 L.length c2).ownBlock ≠ some gN := fun e => by have := hvC.out _ e; omega
            have hnR : (Value.slice A2 L.length c2).ownBlock ≠ some gR := fun e => by have := hvC.out _ e; omega
            have hN6 := (((hN5.drew_.alloc (Obj.cells #[.int .i64 (ln + 1), .int .i64 n, .string ⟨key.toArray⟩, .bool iso] 75)).grown hgrB hnN).far (p := ⟨g, 1, none⟩) (by simp; omega) (.slice A5 (L.length + 1) c5))
            have hR6 := (((hR5.drew_.alloc (Obj.cells #[.int .i64 (ln + 1), .int .i64 n, .string ⟨key.toArray⟩, .bool iso] 75)).grown hgrB hnR).far (p := ⟨g, 1, none⟩) (by simp; omega) (.slice A5 (L.length + 1) c5))
            have hB6 := hBB.set_ 1 (.slice A5 (L.length + 1) c5)
            have hapG : (Value.slice A G.length c).ownBlock = none ∨ (Value.slice A G.length c).ownBlock ≠ (Value.slice A2 L.length c2).ownBlock := by
              cases hq : (Value.slice A G.length c).ownBlock with
              | none => exact Or.inl rfl
              | some y =>
                refine Or.inr (fun e => ?_)
                rcases hap with h | h
                · rw [h] at e
                  cases e
                · exact h (by rw [hq]; exact e.symm)
            have hG6 := OwnS.set ((hG5.keep hk6 (Nat.le_refl _)).grown hgrB hapG) (p := ⟨g, 1, none⟩) (Nat.lt_succ_self g) (.slice A5 (L.length + 1) c5)
            have hC6 := OwnS.set hown2 (p := ⟨g, 1, none⟩) (Nat.lt_succ_self g) (.slice A5 (L.length + 1) c5)
            have hap6 : (Value.slice A5 (L.length + 1) c5).ownBlock = none ∨ (Value.slice A5 (L.length + 1) c5).ownBlock ≠ (Value.slice A G.length c).ownBlock := by
              rcases hwhB with e | e
              · rw [e]
                exact hap
              · rw [e]
                refine Or.inr (fun e2 => ?_)
                have := hvG.out _ e2.symm
                simp at this
                omega
            have hcR : (Value.slice A5 (L.length + 1) c5).ownBlock ≠ some gR := by
              rcases hwhB with e | e
              · rw [e]
                exact hnR
              · rw [e]
                intro e2
                injection e2 with e2
                simp at e2
                omega
            have hgRn : (Value.slice A G.length c).ownBlock ≠ some gR := fun e => by have := hvG.out _ e; omega
            have hb6 : OutR w (wB.setCell ⟨g, 1, none⟩ (.slice A5 (L.length + 1) c5)) g (Value.slice A G.length c).ownBlock (Value.slice A2 L.length c2).ownBlock := ((hbw5.then hk6).grown hgrB (Or.inr rfl)).setCell (p := ⟨g, 1, none⟩) (Or.inl rfl) _
            clear hBB hcB hfB hlB hown2 hbB hgrB hwhB hC5 hG5 hB5 hN5 hR5 hc hf hNc hNf hap hk6 hnN hnR hl5 hNl hbw5
            generalize (wB.setCell ⟨g, 1, none⟩ (.slice A5 (L.length + 1) c5)) = W6 at *
            have hNc := hN6.cell
            have hNf := hN6.frozen
            have hRc := hR6.cell
            have hRf := hR6.frozen
            go_wp2_with fail
          all_goals refine bodyPost_ret (v := (.tuple #[(.agg #[.int .i64 (ln + 1), .int .i64 n, .string ⟨key.toArray⟩, .bool iso]), .int .i64 0])) (by simp only [results, Tryz.results76]; go_simp) rfl ?_
          all_goals refine ⟨⟨rfl, ?_⟩, .slice A5 (L.length + 1) c5, ?_, ?_, ?_, hap6⟩
          all_goals first
            | exact (((hb6.setCell (p := ⟨gR, 0, none⟩) (Or.inr (Nat.le_of_lt hgR2)) _).setCell (p := ⟨gR, 1, none⟩) (Or.inr (Nat.le_of_lt hgR2)) _).setCell (p := ⟨gR, 2, none⟩) (Or.inr (Nat.le_of_lt hgR2)) _).setCell (p := ⟨gR, 3, none⟩) (Or.inr (Nat.le_of_lt hgR2)) _
            | exact (((hB6.far (p := ⟨gR, 0, none⟩) (by simp; omega) _).far (p := ⟨gR, 1, none⟩) (by simp; omega) _).far (p := ⟨gR, 2, none⟩) (by simp; omega) _).far (p := ⟨gR, 3, none⟩) (by simp; omega) _
            | exact (((hG6.away (p := ⟨gR, 0, none⟩) hgRn _).away (p := ⟨gR, 1, none⟩) hgRn _).away (p := ⟨gR, 2, none⟩) hgRn _).away (p := ⟨gR, 3, none⟩) hgRn _
            | (rw [List.map_append]; exact (((hC6.away (p := ⟨gR, 0, none⟩) hcR _).away (p := ⟨gR, 1, none⟩) hcR _).away (p := ⟨gR, 2, none⟩) hcR _).away (p := ⟨gR, 3, none⟩) hcR _)
end Go.Proofs.YtbafofldgkigmaaGreatDoor
