/- glacislaw13.TaintOwn. -/
import Derived.Test.YtbafofldgkigmaaGreatDoorLaw13H
namespace Go.Proofs.YtbafofldgkigmaaGreatDoor
open Go.RowKit
attribute [local irreducible] Calls
theorem take_own {o : Gl.Origin} {L : List Gl.Hop} {k : Nat} (h : k < L.length) : (L.take (k + 1)).all (fun h => Gl.ownH o h.url) = ((L.take k).all (fun h => Gl.ownH o h.url) && Gl.ownH o (hopAt L k).url) := by
  rw [List.take_succ_eq_append_getElem h, List.all_append, hopAt_lt h]
  simp
set_option maxRecDepth 100000 in
set_option maxHeartbeats 20000000 in
theorem law13_own (m c cp : Int) (o : Gl.Origin) (v : Value) (L : List Gl.Hop) (w : World) (hE : Env w) (ho : OReq o) (hv : Hops w v L) : Calls Tryz.prog 8 #[.agg #[.int .i64 m, .int .i64 c, (Value.bool (o).opaq), (Value.int .i64 (o).id), (Value.string ⟨((o).scheme).toArray⟩), (Value.string ⟨(((o).host).name).toArray⟩), (Value.bool ((o).host).v4), (Value.int .u32 (((o).host).addr : Int)), (Value.int .i64 (o).port), .int .i64 cp], v] w (Ret w (.bool true)) := by
  have hup := fun W (hW : Below w.heap.size w W) => awake13 W (hE.below hW)
  have hsm := fun W (hW : Below w.heap.size w W) => law13_small m c cp o v L W (hv.below hW)
  replace hup := Lib.hid hup
  cases hs : smallHops o L
  · rw [hs] at hsm
    replace hsm := Lib.hid hsm
    obtain ⟨A, cc, rfl⟩ := hv.form
    clear hv ho hE hs
    go_enter Tryz.func8, Tryz.ntmps8
    go_wp2_with (first | ((first | (go_at_call 22; refine (hup.out _ (bw_)).mono ?_) | (go_at_call 26; refine (hsm.out _ (bw_)).mono ?_)); rintro e w1 ⟨rfl, hb⟩; obtain ⟨hc, hfz⟩ := bcell hb; have hz := hb.size; (try simp at hz); (try have hz0 := lt_ hb w.heap.size); (try have hz1 := lt_ hb (w.heap.size + 1)); (try have hz2 := lt_ hb (w.heap.size + 2)); (try have hz3 := lt_ hb (w.heap.size + 3)); (try have hcA := fun o => hc w.heap.size o sz_); (try have hcB := fun o => hc (w.heap.size + 1) o sz_)))
    go_ret
    exact ⟨rfl, bw_⟩
  obtain ⟨how, hf, hl⟩ := small13 hs ho
  rw [hs] at hsm
  replace hsm := Lib.hid hsm
  clear hs ho
  by_cases hl1 : L.length < 1
  · skip
    obtain ⟨A, cc, rfl⟩ := hv.form
    clear hv how hf hl hE
    go_enter Tryz.func8, Tryz.ntmps8
    go_wp2_with (first | ((first | (go_at_call 22; refine (hup.out _ (bw_)).mono ?_) | (go_at_call 26; refine (hsm.out _ (bw_)).mono ?_)); rintro e w1 ⟨rfl, hb⟩; obtain ⟨hc, hfz⟩ := bcell hb; have hz := hb.size; (try simp at hz); (try have hz0 := lt_ hb w.heap.size); (try have hz1 := lt_ hb (w.heap.size + 1)); (try have hz2 := lt_ hb (w.heap.size + 2)); (try have hz3 := lt_ hb (w.heap.size + 3)); (try have hcA := fun o => hc w.heap.size o sz_); (try have hcB := fun o => hc (w.heap.size + 1) o sz_)))
    go_ret
    exact ⟨rfl, bw_⟩
  by_cases hl21 : 21 < L.length
  · skip
    obtain ⟨A, cc, rfl⟩ := hv.form
    clear hv how hf hl hE
    go_enter Tryz.func8, Tryz.ntmps8
    go_wp2_with (first | ((first | (go_at_call 22; refine (hup.out _ (bw_)).mono ?_) | (go_at_call 26; refine (hsm.out _ (bw_)).mono ?_)); rintro e w1 ⟨rfl, hb⟩; obtain ⟨hc, hfz⟩ := bcell hb; have hz := hb.size; (try simp at hz); (try have hz0 := lt_ hb w.heap.size); (try have hz1 := lt_ hb (w.heap.size + 1)); (try have hz2 := lt_ hb (w.heap.size + 2)); (try have hz3 := lt_ hb (w.heap.size + 3)); (try have hcA := fun o => hc w.heap.size o sz_); (try have hcB := fun o => hc (w.heap.size + 1) o sz_)))
    go_ret
    exact ⟨rfl, bw_⟩
  have hwk := fun W (hW : Below w.heap.size w W) => taint_walk m c cp o v L W (hE.below hW) how (hv.below hW) hf (by omega)
  have hfr : ∀ h ∈ L, h.url.rest.length ≤ 3000 := fun h hh => (hf h hh).2.2
  have hl1 : 1 ≤ L.length := by omega
  have hl21 : L.length ≤ 21 := by omega
  have hA : m < 1 ∨ 3 < m → Gl.walk m c cp o L = ({}, 1) := fun h => walk_arg h
  have hB := fun (h : ¬ (m < 1 ∨ 3 < m)) hn ho => walk_own (c := c) (cp := cp) (o := o) h hl1 hl21 hn ho
  have hC := fun (h : ¬ (m < 1 ∨ 3 < m)) hn ho => walk_other (c := c) (cp := cp) (o := o) h hl1 hl21 hn ho
  have hon : ∀ k, k < L.length → ∀ W, Calls Tryz.prog 29 #[.agg #[.int .i64 m, .int .i64 c, (Value.bool (o).opaq), (Value.int .i64 (o).id), (Value.string ⟨((o).scheme).toArray⟩), (Value.string ⟨(((o).host).name).toArray⟩), (Value.bool ((o).host).v4), (Value.int .u32 (((o).host).addr : Int)), (Value.int .i64 (o).port), .int .i64 cp], .agg #[(Value.string ⟨(((hopAt L k).url).scheme).toArray⟩), (Value.string ⟨((((hopAt L k).url).host).name).toArray⟩), (Value.bool (((hopAt L k).url).host).v4), (Value.int .u32 ((((hopAt L k).url).host).addr : Int)), (Value.int .i64 ((hopAt L k).url).port), (Value.string ⟨(((hopAt L k).url).path).toArray⟩), (Value.bool ((hopAt L k).url).hasQuery), (Value.string ⟨(((hopAt L k).url).query).toArray⟩), (Value.string ⟨(((hopAt L k).url).rest).toArray⟩), (hopAt L k).vh]] W (Ret W (.bool (Gl.ownH o (hopAt L k).url))) := fun k hk W => ref13_own m c cp o (hopAt L k).url (hopAt L k).vh W (by rw [hopAt_lt hk]; have := hfr _ (List.getElem_mem hk); omega)
  have H := Lib.hid hv
  obtain ⟨A, cc, rfl⟩ := hv.form
  generalize Gl.walk m c cp o L = G at *
  obtain ⟨⟨rt, rc, rn⟩, e⟩ := G
  simp only [gotV] at hwk hA hB hC
  replace hwk := Lib.hid hwk
  replace hA := Lib.hid hA
  replace hB := Lib.hid hB
  replace hC := Lib.hid hC
  replace hon := Lib.hid hon
  clear hv how hf hl hE hfr
  go_enter Tryz.func8, Tryz.ntmps8
  go_upto_region 1 with fail
  generalize hW0 : (w.alloc (Obj.cells #[.int .i64 m, .int .i64 c, (Value.bool (o).opaq), (Value.int .i64 (o).id), (Value.string ⟨((o).scheme).toArray⟩), (Value.string ⟨(((o).host).name).toArray⟩), (Value.bool ((o).host).v4), (Value.int .u32 (((o).host).addr : Int)), (Value.int .i64 (o).port), .int .i64 cp] 54)) = W0
  have hw0 : Below w.heap.size w W0 := by rw [← hW0]; (exact bw_)
  have hBR : Blk W0 (w.heap.size) 54 #[.int .i64 m, .int .i64 c, (Value.bool (o).opaq), (Value.int .i64 (o).id), (Value.string ⟨((o).scheme).toArray⟩), (Value.string ⟨(((o).host).name).toArray⟩), (Value.bool ((o).host).v4), (Value.int .u32 (((o).host).addr : Int)), (Value.int .i64 (o).port), .int .i64 cp] := by rw [← hW0]; exact (Blk.new _ _ _)
  clear hW0
  have hwz := hw0.size
  have hRl := hBR.lt
  have hRc := hBR.cell
  have hRf := hBR.frozen
  go_wp2_with (first | ((first | (go_at_call 22; refine (hup.out _ (bw_)).mono ?_) | (go_at_call 26; refine (hsm.out _ (bw_)).mono ?_)); rintro e w1 ⟨rfl, hb⟩; obtain ⟨hc, hfz⟩ := bcell hb; have hz := hb.size; (try simp at hz); (try have hz0 := lt_ hb w.heap.size); (try have hz1 := lt_ hb (w.heap.size + 1)); (try have hz2 := lt_ hb (w.heap.size + 2)); (try have hz3 := lt_ hb (w.heap.size + 3)); (try have hcA := fun o => hc w.heap.size o sz_); (try have hcB := fun o => hc (w.heap.size + 1) o sz_)))
  go_loopw [7, 8, 9, 10, 53] (fun q i _ _ _ wr => ∃ (k : Nat) (p : Bool), k ≤ L.length ∧ q = .bool p ∧ i = .int .i64 (k : Int) ∧ Hid ((L.take k).all (fun h => Gl.ownH o h.url) = p) ∧ Hid ((L.take k).all (fun h => Gl.isNet h.url) = true) ∧ Below w.heap.size w wr ∧ Blk wr w.heap.size 54 #[.int .i64 m, .int .i64 c, (Value.bool (o).opaq), (Value.int .i64 (o).id), (Value.string ⟨((o).scheme).toArray⟩), (Value.string ⟨(((o).host).name).toArray⟩), (Value.bool ((o).host).v4), (Value.int .u32 (((o).host).addr : Int)), (Value.int .i64 (o).port), .int .i64 cp]) (fun _ i _ _ _ _ => L.length - (intOf i).toNat)
  case atStart => exact ⟨0, true, Nat.zero_le _, rfl, rfl, Lib.hid rfl, Lib.hid rfl, bw_, bk_⟩
  case round =>
    clear hw0 hwz hRl hRc hRf hBR
    obtain ⟨k, p, hk, rfl, rfl, hpk, hnk, hw0, hBR⟩ := hrel
    have hwz := hw0.size
    have hRl := hBR.lt
    have hRc := hBR.cell
    have hRf := hBR.frozen
    by_cases hlt : k < L.length
    · have hnt := fun W => urlp_net (hopAt L k).url W
      have hon1 := hon.out k hlt
      have hso := take_own (o := o) hlt
      have hsn := take_net hlt
      rw [hpk.out] at hso
      rw [hnk.out] at hsn
      obtain ⟨sb, so, sd, he, hsB, hcell⟩ := H.out.cells k hlt
      injection he with he1 he2 he3
      subst he1 he3
      have q0 := fun (W : World) (hW : Below w.heap.size w W) => (hW.cell (p := ⟨sb, so + k * 10 + 0, none⟩) hsB).trans (hcell 0 (by decide))
      have q1 := fun (W : World) (hW : Below w.heap.size w W) => (hW.cell (p := ⟨sb, so + k * 10 + 1, none⟩) hsB).trans (hcell 1 (by decide))
      have q2 := fun (W : World) (hW : Below w.heap.size w W) => (hW.cell (p := ⟨sb, so + k * 10 + 2, none⟩) hsB).trans (hcell 2 (by decide))
      have q3 := fun (W : World) (hW : Below w.heap.size w W) => (hW.cell (p := ⟨sb, so + k * 10 + 3, none⟩) hsB).trans (hcell 3 (by decide))
      have q4 := fun (W : World) (hW : Below w.heap.size w W) => (hW.cell (p := ⟨sb, so + k * 10 + 4, none⟩) hsB).trans (hcell 4 (by decide))
      have q5 := fun (W : World) (hW : Below w.heap.size w W) => (hW.cell (p := ⟨sb, so + k * 10 + 5, none⟩) hsB).trans (hcell 5 (by decide))
      have q6 := fun (W : World) (hW : Below w.heap.size w W) => (hW.cell (p := ⟨sb, so + k * 10 + 6, none⟩) hsB).trans (hcell 6 (by decide))
      have q7 := fun (W : World) (hW : Below w.heap.size w W) => (hW.cell (p := ⟨sb, so + k * 10 + 7, none⟩) hsB).trans (hcell 7 (by decide))
      have q8 := fun (W : World) (hW : Below w.heap.size w W) => (hW.cell (p := ⟨sb, so + k * 10 + 8, none⟩) hsB).trans (hcell 8 (by decide))
      have q9 := fun (W : World) (hW : Below w.heap.size w W) => (hW.cell (p := ⟨sb, so + k * 10 + 9, none⟩) hsB).trans (hcell 9 (by decide))
      rw [← hopAt_lt hlt] at q0 q1 q2 q3 q4 q5 q6 q7 q8 q9
      simp only [hopcells, Nat.add_zero, List.getElem?_toArray, List.getElem?_cons_zero, List.getElem?_cons_succ] at q0 q1 q2 q3 q4 q5 q6 q7 q8 q9
      clear hcell
      generalize hopAt L k = x at *
      generalize Gl.isNet x.url = n at *
      generalize Gl.ownH o x.url = z at *
      replace hnt := Lib.hid hnt
      replace hon1 := Lib.hid hon1
      replace hso := Lib.hid hso
      replace hsn := Lib.hid hsn
      have hsB1 : sb < wr.heap.size := by omega
      have x0 := q0 _ hw0
      have x1 := q1 _ hw0
      have x2 := q2 _ hw0
      have x3 := q3 _ hw0
      have x4 := q4 _ hw0
      have x5 := q5 _ hw0
      have x6 := q6 _ hw0
      have x7 := q7 _ hw0
      have x8 := q8 _ hw0
      have x9 := q9 _ hw0
      clear hpk hnk
      cases n
      · go_wp2_with (go_at_call 20; refine (hnt.out _).mono ?_; rintro e w1 ⟨rfl, hb⟩; obtain ⟨hc, hfz⟩ := bcell hb; have hz := hb.size; (try simp at hz); (try have hz0 := lt_ hb w.heap.size); (try have hz1 := lt_ hb (w.heap.size + 1)); (try have hz2 := lt_ hb (w.heap.size + 2)); (try have hz3 := lt_ hb (w.heap.size + 3)); (try have hcA := fun o => hc w.heap.size o sz_); (try have hcB := fun o => hc (w.heap.size + 1) o sz_))
        go_ret
        exact ⟨rfl, bw_⟩
      · go_upto_region 12 with (go_at_call 20; refine (hnt.out _).mono ?_; rintro e w1 ⟨rfl, hb⟩; obtain ⟨hc, hfz⟩ := bcell hb; have hz := hb.size; (try simp at hz); (try have hz0 := lt_ hb w.heap.size); (try have hz1 := lt_ hb (w.heap.size + 1)); (try have hz2 := lt_ hb (w.heap.size + 2)); (try have hz3 := lt_ hb (w.heap.size + 3)); (try have hcA := fun o => hc w.heap.size o sz_); (try have hcB := fun o => hc (w.heap.size + 1) o sz_))
        go_region_held3 (fun W => Below w.heap.size w W ∧ w.heap.size ≤ W.heap.size ∧ w.heap.size < W.heap.size ∧ (∀ n0, W.cell? ⟨w.heap.size, n0, none⟩ = (#[.int .i64 m, .int .i64 c, (Value.bool (o).opaq), (Value.int .i64 (o).id), (Value.string ⟨((o).scheme).toArray⟩), (Value.string ⟨(((o).host).name).toArray⟩), (Value.bool ((o).host).v4), (Value.int .u32 (((o).host).addr : Int)), (Value.int .i64 (o).port), .int .i64 cp] : Array Value)[n0]?) ∧ W.cell? ⟨sb, so + k * 10, none⟩ = some ((Value.string ⟨((x).url.scheme).toArray⟩)) ∧ W.cell? ⟨sb, so + k * 10 + 1, none⟩ = some ((Value.string ⟨((x).url.host.name).toArray⟩)) ∧ W.cell? ⟨sb, so + k * 10 + 2, none⟩ = some (.bool (x).url.host.v4) ∧ W.cell? ⟨sb, so + k * 10 + 3, none⟩ = some (.int .u32 ((x).url.host.addr : Int)) ∧ W.cell? ⟨sb, so + k * 10 + 4, none⟩ = some (.int .i64 (x).url.port) ∧ W.cell? ⟨sb, so + k * 10 + 5, none⟩ = some ((Value.string ⟨((x).url.path).toArray⟩)) ∧ W.cell? ⟨sb, so + k * 10 + 6, none⟩ = some (.bool (x).url.hasQuery) ∧ W.cell? ⟨sb, so + k * 10 + 7, none⟩ = some ((Value.string ⟨((x).url.query).toArray⟩)) ∧ W.cell? ⟨sb, so + k * 10 + 8, none⟩ = some ((Value.string ⟨((x).url.rest).toArray⟩)) ∧ W.cell? ⟨sb, so + k * 10 + 9, none⟩ = some ((x).vh)) ((refine ⟨bw_, by first | omega | (simp; omega), by first | omega | (simp; omega), by exact Blk.cell (t := 54) (bk_), q0 _ (bw_), q1 _ (bw_), q2 _ (bw_), q3 _ (bw_), q4 _ (bw_), q5 _ (bw_), q6 _ (bw_), q7 _ (bw_), q8 _ (bw_), q9 _ (bw_)⟩)) (first | (go_at_call 29; refine (hon1.out _).mono ?_; rintro e w1 ⟨rfl, hb⟩; obtain ⟨hc, hfz⟩ := bcell hb; have hz := hb.size; (try simp at hz); (try have hz0 := lt_ hb w.heap.size); (try have hz1 := lt_ hb (w.heap.size + 1)); (try have hz2 := lt_ hb (w.heap.size + 2)); (try have hz3 := lt_ hb (w.heap.size + 3)); (try have hcA := fun o => hc w.heap.size o sz_); (try have hcB := fun o => hc (w.heap.size + 1) o sz_)))
        all_goals cases p
        all_goals go_wp2_with fail
        all_goals go_roundw
        case rel => exact ⟨k + 1, _, by omega, rfl, by go_num, Lib.hid hso.out, Lib.hid (hsn.out.trans rfl), bw_, bk_⟩
        case measure => simp [intOf]; omega
        case rel => exact ⟨k + 1, _, by omega, rfl, by go_num, Lib.hid hso.out, Lib.hid (hsn.out.trans rfl), bw_, bk_⟩
        case measure => simp [intOf]; omega
    · obtain rfl : k = L.length := by omega
      have hp2 := hpk.out
      have hn2 := hnk.out
      rw [List.take_length] at hp2 hn2
      clear hpk hnk
      by_cases hm : m < 1 ∨ 3 < m
      · have hg := hA.out hm
        injection hg with hg1 hg2
        injection hg1 with hg3 hg4 hg5
        subst hg2 hg3 hg4 hg5
        clear hA hB hC hp2 hn2
        rcases hm with hm | hm
        · go_wp2_with (go_at_call 27; refine (hwk.out _ (bw_)).mono ?_; rintro e w1 ⟨rfl, hb⟩; obtain ⟨hc, hfz⟩ := bcell hb; have hz := hb.size; (try simp at hz); (try have hz0 := lt_ hb w.heap.size); (try have hz1 := lt_ hb (w.heap.size + 1)); (try have hz2 := lt_ hb (w.heap.size + 2)); (try have hz3 := lt_ hb (w.heap.size + 3)); (try have hcA := fun o => hc w.heap.size o sz_); (try have hcB := fun o => hc (w.heap.size + 1) o sz_))
          go_ret
          exact ⟨rfl, bw_⟩
        · go_wp2_with (go_at_call 27; refine (hwk.out _ (bw_)).mono ?_; rintro e w1 ⟨rfl, hb⟩; obtain ⟨hc, hfz⟩ := bcell hb; have hz := hb.size; (try simp at hz); (try have hz0 := lt_ hb w.heap.size); (try have hz1 := lt_ hb (w.heap.size + 1)); (try have hz2 := lt_ hb (w.heap.size + 2)); (try have hz3 := lt_ hb (w.heap.size + 3)); (try have hcA := fun o => hc w.heap.size o sz_); (try have hcB := fun o => hc (w.heap.size + 1) o sz_))
          go_ret
          exact ⟨rfl, bw_⟩
      · have hm1 : 1 ≤ m := by omega
        have hm3 : m ≤ 3 := by omega
        cases p
        · have hg := hC.out hm hn2 hp2
          try simp only at hg
          clear hA hB hC hp2 hn2 hm
          rcases hg with ⟨rfl, rfl⟩ | ⟨rfl, rfl, rfl⟩ | ⟨rfl, rfl, rfl⟩ | ⟨rfl, rfl, rfl, rfl⟩
          all_goals
            go_wp2_with (go_at_call 27; refine (hwk.out _ (bw_)).mono ?_; rintro e w1 ⟨rfl, hb⟩; obtain ⟨hc, hfz⟩ := bcell hb; have hz := hb.size; (try simp at hz); (try have hz0 := lt_ hb w.heap.size); (try have hz1 := lt_ hb (w.heap.size + 1)); (try have hz2 := lt_ hb (w.heap.size + 2)); (try have hz3 := lt_ hb (w.heap.size + 3)); (try have hcA := fun o => hc w.heap.size o sz_); (try have hcB := fun o => hc (w.heap.size + 1) o sz_))
            go_ret
            exact ⟨rfl, bw_⟩
        · have hg := hB.out hm hn2 hp2
          try simp only at hg
          obtain ⟨rfl, rfl, rfl⟩ := hg
          clear hA hB hC hp2 hn2 hm
          go_wp2_with (go_at_call 27; refine (hwk.out _ (bw_)).mono ?_; rintro e w1 ⟨rfl, hb⟩; obtain ⟨hc, hfz⟩ := bcell hb; have hz := hb.size; (try simp at hz); (try have hz0 := lt_ hb w.heap.size); (try have hz1 := lt_ hb (w.heap.size + 1)); (try have hz2 := lt_ hb (w.heap.size + 2)); (try have hz3 := lt_ hb (w.heap.size + 3)); (try have hcA := fun o => hc w.heap.size o sz_); (try have hcB := fun o => hc (w.heap.size + 1) o sz_))
          go_ret
          exact ⟨rfl, bw_⟩
end Go.Proofs.YtbafofldgkigmaaGreatDoor
