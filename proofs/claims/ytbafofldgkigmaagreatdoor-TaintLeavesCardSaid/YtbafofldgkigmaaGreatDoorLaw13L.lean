/- glacislaw13.TaintLeaves. -/
import Derived.Test.YtbafofldgkigmaaGreatDoorLaw13O
namespace Go.Proofs.YtbafofldgkigmaaGreatDoor
open Go.RowKit
attribute [local irreducible] Calls
set_option maxRecDepth 100000 in
set_option maxHeartbeats 20000000 in
theorem law13_leaves (m c cp : Int) (o : Gl.Origin) (v : Value) (L : List Gl.Hop) (w : World) (hE : Env w) (ho : OReq o) (hv : Hops w v L) : Calls Tryz.prog 10 #[.agg #[.int .i64 m, .int .i64 c, (Value.bool (o).opaq), (Value.int .i64 (o).id), (Value.string ⟨((o).scheme).toArray⟩), (Value.string ⟨(((o).host).name).toArray⟩), (Value.bool ((o).host).v4), (Value.int .u32 (((o).host).addr : Int)), (Value.int .i64 (o).port), .int .i64 cp], v] w (Ret w (.bool true)) := by
  have hup := fun W (hW : Below w.heap.size w W) => awake13 W (hE.below hW)
  have hsm := fun W (hW : Below w.heap.size w W) => law13_small m c cp o v L W (hv.below hW)
  replace hup := Lib.hid hup
  cases hs : smallHops o L
  · rw [hs] at hsm
    replace hsm := Lib.hid hsm
    obtain ⟨A, cc, rfl⟩ := hv.form
    clear hv ho hE hs
    go_enter Tryz.func10, Tryz.ntmps10
    go_wp2_with (first | ((first | (go_at_call 22; refine (hup.out _ (bw_)).mono ?_) | (go_at_call 26; refine (hsm.out _ (bw_)).mono ?_)); rintro e w1 ⟨rfl, hb⟩; obtain ⟨hc, hfz⟩ := bcell hb; have hz := hb.size; (try simp at hz); (try have hz0 := lt_ hb w.heap.size); (try have hz1 := lt_ hb (w.heap.size + 1)); (try have hz2 := lt_ hb (w.heap.size + 2)); (try have hz3 := lt_ hb (w.heap.size + 3)); (try have hcA := fun o => hc w.heap.size o sz_); (try have hcB := fun o => hc (w.heap.size + 1) o sz_); (try (have i := cf_ hb gA; obtain ⟨hcGgA, hfGgA, hzGgA⟩ := i))))
    go_ret
    exact ⟨rfl, bw_⟩
  obtain ⟨how, hf, hl⟩ := small13 hs ho
  rw [hs] at hsm
  replace hsm := Lib.hid hsm
  clear hs ho
  obtain ⟨m2, hm2⟩ : ∃ m2, (if m = 1 then 2 else m) = m2 := ⟨_, rfl⟩
  have hm21 : m2 ≠ 1 := by rw [← hm2]; split <;> omega
  have hwk := fun W (hW : Below w.heap.size w W) => taint_walk m2 c 1 o v L W (hE.below hW) how (hv.below hW) hf (by omega)
  have hfr : ∀ h ∈ L, h.url.rest.length ≤ 3000 := fun h hh => (hf h hh).2.2
  have hC := fun he hc => walk_leaves (c := c) (o := o) (L := L) hm21 he hc
  have hon : ∀ k, k < L.length → ∀ W, Calls Tryz.prog 29 #[.agg #[.int .i64 m2, .int .i64 c, (Value.bool (o).opaq), (Value.int .i64 (o).id), (Value.string ⟨((o).scheme).toArray⟩), (Value.string ⟨(((o).host).name).toArray⟩), (Value.bool ((o).host).v4), (Value.int .u32 (((o).host).addr : Int)), (Value.int .i64 (o).port), .int .i64 1], .agg #[(Value.string ⟨(((hopAt L k).url).scheme).toArray⟩), (Value.string ⟨((((hopAt L k).url).host).name).toArray⟩), (Value.bool (((hopAt L k).url).host).v4), (Value.int .u32 ((((hopAt L k).url).host).addr : Int)), (Value.int .i64 ((hopAt L k).url).port), (Value.string ⟨(((hopAt L k).url).path).toArray⟩), (Value.bool ((hopAt L k).url).hasQuery), (Value.string ⟨(((hopAt L k).url).query).toArray⟩), (Value.string ⟨(((hopAt L k).url).rest).toArray⟩), (hopAt L k).vh]] W (Ret W (.bool (Gl.ownH o (hopAt L k).url))) := fun k hk W => ref13_own m2 c 1 o (hopAt L k).url (hopAt L k).vh W (by rw [hopAt_lt hk]; have := hfr _ (List.getElem_mem hk); omega)
  have hvl := fun (h1 : 1 ≤ L.length) W (hW : Below w.heap.size w W) => headers_values (hopAt L (L.length - 1)).vh (hopAt L (L.length - 1)).head accT W (by rw [hopAt_lt (by omega)]; exact (hv.2 _ (List.getElem_mem (by omega))).below hW) (by rw [hopAt_lt (by omega)]; exact (hf _ (List.getElem_mem (by omega))).1) (by rw [hopAt_lt (by omega)]; exact (hf _ (List.getElem_mem (by omega))).2.1) (by decide)
  have H := Lib.hid hv
  obtain ⟨A, cc, rfl⟩ := hv.form
  generalize Gl.walk m2 c 1 o L = G at *
  obtain ⟨⟨rt, rc, rn⟩, e⟩ := G
  simp only [gotV] at hwk hC
  replace hwk := Lib.hid hwk
  replace hC := Lib.hid hC
  replace hon := Lib.hid hon
  replace hvl := Lib.hid hvl
  replace hm2 := Lib.hid hm2
  clear hv how hf hE hfr hm21
  go_enter Tryz.func10, Tryz.ntmps10
  go_upto_region 1 with fail
  generalize hW0 : (w.alloc (Obj.cells #[.int .i64 m, .int .i64 c, (Value.bool (o).opaq), (Value.int .i64 (o).id), (Value.string ⟨((o).scheme).toArray⟩), (Value.string ⟨(((o).host).name).toArray⟩), (Value.bool ((o).host).v4), (Value.int .u32 (((o).host).addr : Int)), (Value.int .i64 (o).port), .int .i64 cp] 54)) = W0
  have hw0 : Below w.heap.size w W0 := by rw [← hW0]; (exact bw_)
  have hBR : Blk W0 (w.heap.size) 54 #[.int .i64 m, .int .i64 c, (Value.bool (o).opaq), (Value.int .i64 (o).id), (Value.string ⟨((o).scheme).toArray⟩), (Value.string ⟨(((o).host).name).toArray⟩), (Value.bool ((o).host).v4), (Value.int .u32 (((o).host).addr : Int)), (Value.int .i64 (o).port), .int .i64 cp] := by rw [← hW0]; exact (Blk.new _ _ _)
  clear hW0
  have hwz := hw0.size
  have hRl := hBR.lt
  have hRc := hBR.cell
  have hRf := hBR.frozen
  go_upto_region 5 with (first | ((first | (go_at_call 22; refine (hup.out _ (bw_)).mono ?_) | (go_at_call 26; refine (hsm.out _ (bw_)).mono ?_)); rintro e w1 ⟨rfl, hb⟩; obtain ⟨hc, hfz⟩ := bcell hb; have hz := hb.size; (try simp at hz); (try have hz0 := lt_ hb w.heap.size); (try have hz1 := lt_ hb (w.heap.size + 1)); (try have hz2 := lt_ hb (w.heap.size + 2)); (try have hz3 := lt_ hb (w.heap.size + 3)); (try have hcA := fun o => hc w.heap.size o sz_); (try have hcB := fun o => hc (w.heap.size + 1) o sz_); (try (have i := cf_ hb gA; obtain ⟨hcGgA, hfGgA, hzGgA⟩ := i))))
  go_cut [] from 13 (fun  w' => Below w.heap.size w w' ∧ Blk w' (w.heap.size) 54 #[.int .i64 m, .int .i64 c, (Value.bool (o).opaq), (Value.int .i64 (o).id), (Value.string ⟨((o).scheme).toArray⟩), (Value.string ⟨(((o).host).name).toArray⟩), (Value.bool ((o).host).v4), (Value.int .u32 (((o).host).addr : Int)), (Value.int .i64 (o).port), .int .i64 1])
  case first =>
    go_wp2_with fail
    go_meet
    case rel =>
      exact ⟨bw_, by exact Blk.set_ (cs := #[.int .i64 m, .int .i64 c, (Value.bool (o).opaq), (Value.int .i64 (o).id), (Value.string ⟨((o).scheme).toArray⟩), (Value.string ⟨(((o).host).name).toArray⟩), (Value.bool ((o).host).v4), (Value.int .u32 (((o).host).addr : Int)), (Value.int .i64 (o).port), .int .i64 cp]) (by exact bk_) 9 (.int .i64 1)⟩
  case rest =>
  clear hw0 hwz hRl hRc hRf hBR 
  obtain ⟨hw0, hBR⟩ := hcut
  have hwz := hw0.size
  have hRl := hBR.lt
  have hRc := hBR.cell
  have hRf := hBR.frozen
  first | go_step | skip
  first | go_step | skip
  go_cut [] from 13 (fun  w' => Below w.heap.size w w' ∧ Blk w' (w.heap.size) 54 #[.int .i64 m2, .int .i64 c, (Value.bool (o).opaq), (Value.int .i64 (o).id), (Value.string ⟨((o).scheme).toArray⟩), (Value.string ⟨(((o).host).name).toArray⟩), (Value.bool ((o).host).v4), (Value.int .u32 (((o).host).addr : Int)), (Value.int .i64 (o).port), .int .i64 1])
  case first =>
    have hm3 := hm2.out
    by_cases h1 : m = 1
    · subst h1
      rw [if_pos rfl] at hm3
      subst hm3
      go_wp2_with fail
      go_meet
      case rel => exact ⟨bw_, by exact hBR.set_ 0 (.int .i64 2)⟩
    · rw [if_neg h1] at hm3
      subst hm3
      have h1b : (m == 1) = false := by rw [beq_eq_false_iff_ne]; exact h1
      go_wp2_with fail
      go_meet
      case rel => exact ⟨bw_, hBR⟩
  case rest =>
  clear hw0 hwz hRl hRc hRf hBR 
  obtain ⟨hw0, hBR⟩ := hcut
  have hwz := hw0.size
  have hRl := hBR.lt
  have hRc := hBR.cell
  have hRf := hBR.frozen
  go_upto_region 8 with fail
  go_cut [7, 8] from 13 (fun x7 x8 w' => ∃ gA, x8 = .int .i64 e ∧ x7 = .pointer (some ⟨gA, 0, none⟩) ∧ Below w.heap.size w w' ∧ Blk w' (w.heap.size) 54 #[.int .i64 m2, .int .i64 c, (Value.bool (o).opaq), (Value.int .i64 (o).id), (Value.string ⟨((o).scheme).toArray⟩), (Value.string ⟨(((o).host).name).toArray⟩), (Value.bool ((o).host).v4), (Value.int .u32 (((o).host).addr : Int)), (Value.int .i64 (o).port), .int .i64 1] ∧ Blk w' (gA) 58 #[.int .i64 rt, .bool rc, .bool rn])
  case first =>
    go_wp2_with (go_at_call 27; refine (hwk.out _ (bw_)).mono ?_; rintro e w1 ⟨rfl, hb⟩; obtain ⟨hc, hfz⟩ := bcell hb; have hz := hb.size; (try simp at hz); (try have hz0 := lt_ hb w.heap.size); (try have hz1 := lt_ hb (w.heap.size + 1)); (try have hz2 := lt_ hb (w.heap.size + 2)); (try have hz3 := lt_ hb (w.heap.size + 3)); (try have hcA := fun o => hc w.heap.size o sz_); (try have hcB := fun o => hc (w.heap.size + 1) o sz_); (try (have i := cf_ hb gA; obtain ⟨hcGgA, hfGgA, hzGgA⟩ := i)))
    go_meet
    case rel =>
      exact ⟨_, rfl, rfl, bw_, bk_, bk_⟩
  case rest =>
  clear hw0 hwz hRl hRc hRf hBR 
  obtain ⟨gA, rfl, rfl, hw0, hBR, hBA⟩ := hcut
  have hwz := hw0.size
  have hRl := hBR.lt
  have hRc := hBR.cell
  have hRf := hBR.frozen
  have hAl := hBA.lt
  have hAc := hBA.cell
  have hAf := hBA.frozen
  by_cases he : e = 0
  · subst he
    cases rc
    · go_wp2_with fail
      go_ret
      exact ⟨rfl, bw_⟩
    · have hg := hC.out rfl rfl
      replace hg := Lib.hid hg
      clear hC
      go_wp2_with fail
      go_loopw [9, 10, 11, 53] (fun q i _ _ wr => ∃ (k : Nat) (p : Bool), k ≤ L.length ∧ q = .bool p ∧ i = .int .i64 (k : Int) ∧ Hid ((L.take k).all (fun h => Gl.ownH o h.url) = p) ∧ Below w.heap.size w wr ∧ Blk wr w.heap.size 54 #[.int .i64 m2, .int .i64 c, (Value.bool (o).opaq), (Value.int .i64 (o).id), (Value.string ⟨((o).scheme).toArray⟩), (Value.string ⟨(((o).host).name).toArray⟩), (Value.bool ((o).host).v4), (Value.int .u32 (((o).host).addr : Int)), (Value.int .i64 (o).port), .int .i64 1] ∧ Blk wr gA 58 #[.int .i64 rt, .bool true, .bool rn]) (fun _ i _ _ _ => L.length - (intOf i).toNat)
      case atStart => exact ⟨0, true, Nat.zero_le _, rfl, rfl, Lib.hid rfl, bw_, bk_, bk_⟩
      case round =>
        clear hw0 hwz hRl hRc hRf hAl hAc hAf hBR hBA
        obtain ⟨k, p, hk, rfl, rfl, hpk, hw0, hBR, hBA⟩ := hrel
        have hwz := hw0.size
        have hRl := hBR.lt
        have hRc := hBR.cell
        have hRf := hBR.frozen
        have hAl := hBA.lt
        have hAc := hBA.cell
        have hAf := hBA.frozen
        by_cases hlt : k < L.length
        · have hon1 := hon.out k hlt
          have hso := take_own (o := o) hlt
          rw [hpk.out] at hso
          obtain ⟨sb, so, sd, he, hsB, hcell⟩ := H.out.cells k hlt
          injection he with he1 he2 he3
          subst he1 he3
          have q0 := fun (W : World) (hW : Below w.heap.size w W) => (hW.cell (p := ⟨sb, so + k * 10 + 0, none⟩) hsB).trans (hcell 0 (by decide))
          have q1 := fun (W : World) (hW : Below w.heap.size w W) => (hW.cell (p := ⟨sb, so + k * 10 + 1, none⟩) hsB).trans (hcell 1 (by decide))
          have q2 := fun (W : World) (hW : Below w.heap.size w W) => (hW.cell (p := ⟨sb, so + k * 10 + 2, none⟩) hsB).trans (hcell 2 (by decide))
          have q3 := fun (W : World) (hW : Below w.heap.size w W) => (hW.cell (p := ⟨sb, so + k * 10 + 3, none⟩) hsB).trans (hcell 3 (by decide))
          have q4 := fun (W : World) (hW : Below w.heap.size w W) => (hW.cell (p := ⟨sb, so + k * 10 + 4, none⟩) hsB).trans (hcell 4 (by decide))
          have q5 := fun (W : World) (hW : Below w.heap.size w W) => (hW.cell (p := ⟨sb, so + k * 10 + 5, none⟩) hsB).trans (hcell 5 (by decide))
          have q6 := fun (W : World) (hW : Below w.heap.size w W) => (hW.cell (p := ⟨sb, so + k * 10 + 6, none⟩) hsB).trans (hcell 6 (by decide))
          have q7 := fun (W : World) (hW : Below w.heap.size w W) => (hW.cell (p := ⟨sb, so + k * 10 + 7, none⟩) hsB).trans (hcell 7 (by decide))
          have q8 := fun (W : World) (hW : Below w.heap.size w W) => (hW.cell (p := ⟨sb, so + k * 10 + 8, none⟩) hsB).trans (hcell 8 (by decide))
          have q9 := fun (W : World) (hW : Below w.heap.size w W) => (hW.cell (p := ⟨sb, so + k * 10 + 9, none⟩) hsB).trans (hcell 9 (by decide))
          rw [← hopAt_lt hlt] at q0 q1 q2 q3 q4 q5 q6 q7 q8 q9
          simp only [hopcells, Nat.add_zero, List.getElem?_toArray, List.getElem?_cons_zero, List.getElem?_cons_succ] at q0 q1 q2 q3 q4 q5 q6 q7 q8 q9
          clear hcell
          generalize hopAt L k = x at *
          generalize Gl.ownH o x.url = z at *
          replace hon1 := Lib.hid hon1
          replace hso := Lib.hid hso
          have hsB1 : sb < wr.heap.size := by omega
          clear hpk
          go_upto_region 15 with fail
          go_region_held3 (fun W => Below w.heap.size w W ∧ w.heap.size ≤ W.heap.size ∧ w.heap.size < W.heap.size ∧ (∀ n0, W.cell? ⟨w.heap.size, n0, none⟩ = (#[.int .i64 m2, .int .i64 c, (Value.bool (o).opaq), (Value.int .i64 (o).id), (Value.string ⟨((o).scheme).toArray⟩), (Value.string ⟨(((o).host).name).toArray⟩), (Value.bool ((o).host).v4), (Value.int .u32 (((o).host).addr : Int)), (Value.int .i64 (o).port), .int .i64 1] : Array Value)[n0]?) ∧ W.cell? ⟨sb, so + k * 10, none⟩ = some ((Value.string ⟨((x).url.scheme).toArray⟩)) ∧ W.cell? ⟨sb, so + k * 10 + 1, none⟩ = some ((Value.string ⟨((x).url.host.name).toArray⟩)) ∧ W.cell? ⟨sb, so + k * 10 + 2, none⟩ = some (.bool (x).url.host.v4) ∧ W.cell? ⟨sb, so + k * 10 + 3, none⟩ = some (.int .u32 ((x).url.host.addr : Int)) ∧ W.cell? ⟨sb, so + k * 10 + 4, none⟩ = some (.int .i64 (x).url.port) ∧ W.cell? ⟨sb, so + k * 10 + 5, none⟩ = some ((Value.string ⟨((x).url.path).toArray⟩)) ∧ W.cell? ⟨sb, so + k * 10 + 6, none⟩ = some (.bool (x).url.hasQuery) ∧ W.cell? ⟨sb, so + k * 10 + 7, none⟩ = some ((Value.string ⟨((x).url.query).toArray⟩)) ∧ W.cell? ⟨sb, so + k * 10 + 8, none⟩ = some ((Value.string ⟨((x).url.rest).toArray⟩)) ∧ W.cell? ⟨sb, so + k * 10 + 9, none⟩ = some ((x).vh)) ((refine ⟨bw_, by first | omega | (simp; omega), by first | omega | (simp; omega), by exact Blk.cell (t := 54) (bk_), q0 _ (bw_), q1 _ (bw_), q2 _ (bw_), q3 _ (bw_), q4 _ (bw_), q5 _ (bw_), q6 _ (bw_), q7 _ (bw_), q8 _ (bw_), q9 _ (bw_)⟩)) (first | (go_at_call 29; refine (hon1.out _).mono ?_; rintro e w1 ⟨rfl, hb⟩; obtain ⟨hc, hfz⟩ := bcell hb; have hz := hb.size; (try simp at hz); (try have hz0 := lt_ hb w.heap.size); (try have hz1 := lt_ hb (w.heap.size + 1)); (try have hz2 := lt_ hb (w.heap.size + 2)); (try have hz3 := lt_ hb (w.heap.size + 3)); (try have hcA := fun o => hc w.heap.size o sz_); (try have hcB := fun o => hc (w.heap.size + 1) o sz_); (try (have i := cf_ hb gA; obtain ⟨hcGgA, hfGgA, hzGgA⟩ := i))))
          all_goals cases p
          all_goals go_wp2_with fail
          all_goals go_roundw
          case rel => exact ⟨k + 1, _, by omega, rfl, by go_num, Lib.hid hso.out, bw_, bk_, bk_⟩
          case measure => simp [intOf]; omega
          case rel => exact ⟨k + 1, _, by omega, rfl, by go_num, Lib.hid hso.out, bw_, bk_, bk_⟩
          case measure => simp [intOf]; omega
        · obtain rfl : k = L.length := by omega
          have hp2 := hpk.out
          have hg2 := hg.out
          rw [List.take_length] at hp2
          rw [hp2] at hg2
          clear hpk hg hp2
          try simp only at hg2
          rcases hg2 with ⟨rfl, rfl⟩ | ⟨rfl, rfl, rfl, h1, h2⟩
          · go_wp2_with fail
            go_ret
            exact ⟨rfl, bw_⟩
          · have hv1 := hvl.out h1
            obtain ⟨sb, so, sd, he, hsB, hcell⟩ := H.out.cells (L.length - 1) (by omega : L.length - 1 < L.length)
            injection he with he1 he2 he3
            subst he1 he3
            have q0 := fun (W : World) (hW : Below w.heap.size w W) => (hW.cell (p := ⟨sb, so + (L.length - 1) * 10 + 0, none⟩) hsB).trans (hcell 0 (by decide))
            have q1 := fun (W : World) (hW : Below w.heap.size w W) => (hW.cell (p := ⟨sb, so + (L.length - 1) * 10 + 1, none⟩) hsB).trans (hcell 1 (by decide))
            have q2 := fun (W : World) (hW : Below w.heap.size w W) => (hW.cell (p := ⟨sb, so + (L.length - 1) * 10 + 2, none⟩) hsB).trans (hcell 2 (by decide))
            have q3 := fun (W : World) (hW : Below w.heap.size w W) => (hW.cell (p := ⟨sb, so + (L.length - 1) * 10 + 3, none⟩) hsB).trans (hcell 3 (by decide))
            have q4 := fun (W : World) (hW : Below w.heap.size w W) => (hW.cell (p := ⟨sb, so + (L.length - 1) * 10 + 4, none⟩) hsB).trans (hcell 4 (by decide))
            have q5 := fun (W : World) (hW : Below w.heap.size w W) => (hW.cell (p := ⟨sb, so + (L.length - 1) * 10 + 5, none⟩) hsB).trans (hcell 5 (by decide))
            have q6 := fun (W : World) (hW : Below w.heap.size w W) => (hW.cell (p := ⟨sb, so + (L.length - 1) * 10 + 6, none⟩) hsB).trans (hcell 6 (by decide))
            have q7 := fun (W : World) (hW : Below w.heap.size w W) => (hW.cell (p := ⟨sb, so + (L.length - 1) * 10 + 7, none⟩) hsB).trans (hcell 7 (by decide))
            have q8 := fun (W : World) (hW : Below w.heap.size w W) => (hW.cell (p := ⟨sb, so + (L.length - 1) * 10 + 8, none⟩) hsB).trans (hcell 8 (by decide))
            have q9 := fun (W : World) (hW : Below w.heap.size w W) => (hW.cell (p := ⟨sb, so + (L.length - 1) * 10 + 9, none⟩) hsB).trans (hcell 9 (by decide))
            rw [← hopAt_lt (by omega : L.length - 1 < L.length)] at q0 q1 q2 q3 q4 q5 q6 q7 q8 q9
            simp only [hopcells, Nat.add_zero, List.getElem?_toArray, List.getElem?_cons_zero, List.getElem?_cons_succ] at q0 q1 q2 q3 q4 q5 q6 q7 q8 q9
            clear hcell
            generalize hopAt L (L.length - 1) = y at *
            have hvn : (0 : Int) < ((Gl.values y.head accT).length : Int) := by omega
            generalize Gl.values y.head accT = V at *
            have x9 := q9 _ hw0
            have hsB1 : sb < wr.heap.size := by omega
            clear q0 q1 q2 q3 q4 q5 q6 q7 q8 q9
            replace hv1 := Lib.hid hv1
            go_wp2_with (go_at_call 30; refine (hv1.out _ (bw_)).mono ?_; rintro e wV ⟨v1, rfl, hown, hb⟩; obtain ⟨A1, c1, rfl⟩ := owns_form hown; obtain ⟨hc, hfz⟩ := bcell hb; have hz := hb.size; (try simp at hz); (try have hcA := fun o => hc w.heap.size o sz_); (try (have i := cf_ hb gA; obtain ⟨hcGgA, hfGgA, hzGgA⟩ := i)))
            go_ret
            exact ⟨rfl, bw_⟩
  · have he1 : (e == 0) = false := by rw [beq_eq_false_iff_ne]; exact he
    have he2 : (e != 0) = true := by rw [bne, he1]; rfl
    go_wp2_with fail
    go_ret
    exact ⟨rfl, bw_⟩
end Go.Proofs.YtbafofldgkigmaaGreatDoor
