/- glacislaw13.TaintHops. -/
import Derived.Test.YtbafofldgkigmaaGreatDoorGot13
namespace Go.Proofs.YtbafofldgkigmaaGreatDoor
open Go.RowKit
attribute [local irreducible] Calls
theorem take_net {L : List Gl.Hop} {k : Nat} (h : k < L.length) : (L.take (k + 1)).all (fun h => Gl.isNet h.url) = ((L.take k).all (fun h => Gl.isNet h.url) && Gl.isNet (hopAt L k).url) := by
  rw [List.take_succ_eq_append_getElem h, List.all_append, hopAt_lt h]
  simp
/-- May the first k hops be? -/
def mayK (L : List Gl.Hop) (k : Nat) : Bool := decide (1 ≤ L.length) && decide (L.length ≤ 21) && (decide (L.length = 1) || (L.take k).all (fun h => Gl.isNet h.url))
theorem mayK_len (L : List Gl.Hop) : mayK L L.length = Gl.mayH L := by unfold mayK Gl.mayH; rw [List.take_length]
theorem mayK_succ {L : List Gl.Hop} {k : Nat} (h : k < L.length) : mayK L (k + 1) = (mayK L k && (Gl.isNet (hopAt L k).url || decide (L.length = 1))) := by
  unfold mayK
  rw [take_net h]
  generalize (L.take k).all (fun h => Gl.isNet h.url) = p
  generalize Gl.isNet (hopAt L k).url = q
  generalize decide (L.length = 1) = z
  generalize decide (1 ≤ L.length) = x
  generalize decide (L.length ≤ 21) = y
  cases p <;> cases q <;> cases z <;> cases x <;> cases y <;> rfl
set_option maxRecDepth 100000 in
set_option maxHeartbeats 20000000 in
theorem law13_hops (m c cp : Int) (o : Gl.Origin) (v : Value) (L : List Gl.Hop) (w : World) (hE : Env w) (ho : OReq o) (hv : Hops w v L) : Calls Tryz.prog 11 #[.agg #[.int .i64 m, .int .i64 c, (Value.bool (o).opaq), (Value.int .i64 (o).id), (Value.string ⟨((o).scheme).toArray⟩), (Value.string ⟨(((o).host).name).toArray⟩), (Value.bool ((o).host).v4), (Value.int .u32 (((o).host).addr : Int)), (Value.int .i64 (o).port), .int .i64 cp], v] w (Ret w (.bool true)) := by
  have hup := fun W (hW : Below w.heap.size w W) => awake13 W (hE.below hW)
  have hsm := fun W (hW : Below w.heap.size w W) => law13_small m c cp o v L W (hv.below hW)
  replace hup := Lib.hid hup
  cases hs : smallHops o L
  · rw [hs] at hsm
    replace hsm := Lib.hid hsm
    obtain ⟨A, cc, rfl⟩ := hv.form
    clear hv ho hE hs
    go_enter Tryz.func11, Tryz.ntmps11
    go_wp2_with (first | ((first | (go_at_call 22; refine (hup.out _ (bw_)).mono ?_) | (go_at_call 26; refine (hsm.out _ (bw_)).mono ?_)); rintro e w1 ⟨rfl, hb⟩; obtain ⟨hc, hfz⟩ := bcell hb; have hz := hb.size; (try simp at hz); (try have hz0 := lt_ hb w.heap.size); (try have hz1 := lt_ hb (w.heap.size + 1)); (try have hz2 := lt_ hb (w.heap.size + 2)); (try have hz3 := lt_ hb (w.heap.size + 3)); (try have hcA := fun o => hc w.heap.size o sz_); (try have hcB := fun o => hc (w.heap.size + 1) o sz_)))
    go_ret
    exact ⟨rfl, bw_⟩
  obtain ⟨how, hf, hl⟩ := small13 hs ho
  rw [hs] at hsm
  replace hsm := Lib.hid hsm
  clear hs ho
  by_cases hm : m < 1 ∨ 3 < m
  · obtain ⟨A, cc, rfl⟩ := hv.form
    clear hv how hf hl hE
    rcases hm with hm | hm
    · go_enter Tryz.func11, Tryz.ntmps11
      go_wp2_with (first | ((first | (go_at_call 22; refine (hup.out _ (bw_)).mono ?_) | (go_at_call 26; refine (hsm.out _ (bw_)).mono ?_)); rintro e w1 ⟨rfl, hb⟩; obtain ⟨hc, hfz⟩ := bcell hb; have hz := hb.size; (try simp at hz); (try have hz0 := lt_ hb w.heap.size); (try have hz1 := lt_ hb (w.heap.size + 1)); (try have hz2 := lt_ hb (w.heap.size + 2)); (try have hz3 := lt_ hb (w.heap.size + 3)); (try have hcA := fun o => hc w.heap.size o sz_); (try have hcB := fun o => hc (w.heap.size + 1) o sz_)))
      go_ret
      exact ⟨rfl, bw_⟩
    · go_enter Tryz.func11, Tryz.ntmps11
      go_wp2_with (first | ((first | (go_at_call 22; refine (hup.out _ (bw_)).mono ?_) | (go_at_call 26; refine (hsm.out _ (bw_)).mono ?_)); rintro e w1 ⟨rfl, hb⟩; obtain ⟨hc, hfz⟩ := bcell hb; have hz := hb.size; (try simp at hz); (try have hz0 := lt_ hb w.heap.size); (try have hz1 := lt_ hb (w.heap.size + 1)); (try have hz2 := lt_ hb (w.heap.size + 2)); (try have hz3 := lt_ hb (w.heap.size + 3)); (try have hcA := fun o => hc w.heap.size o sz_); (try have hcB := fun o => hc (w.heap.size + 1) o sz_)))
      go_ret
      exact ⟨rfl, bw_⟩
  have hwk := fun W (hW : Below w.heap.size w W) => taint_walk m c cp o v L W (hE.below hW) how (hv.below hW) hf (by omega)
  have hmay := walk_may (c := c) (cp := cp) (o := o) (L := L) hm
  rw [← mayK_len] at hmay
  have hm1 : 1 ≤ m := by omega
  have hm3 : m ≤ 3 := by omega
  clear hm how hf hE
  have H := Lib.hid hv
  obtain ⟨A, cc, rfl⟩ := hv.form
  generalize Gl.walk m c cp o L = G at *
  obtain ⟨⟨rt, rc, rn⟩, e⟩ := G
  simp only [gotV] at hwk hmay
  obtain ⟨p0, hp0⟩ : ∃ p, mayK L 0 = p := ⟨_, rfl⟩
  have hp1 : p0 = (decide (1 ≤ L.length) && decide (L.length ≤ 21)) := by rw [← hp0]; unfold mayK; simp
  replace hwk := Lib.hid hwk
  replace hmay := Lib.hid hmay
  replace hp0 := Lib.hid hp0
  replace hp1 := Lib.hid hp1
  clear hv
  go_enter Tryz.func11, Tryz.ntmps11
  go_upto_region 1 with fail
  generalize hW0 : (w.alloc (Obj.cells #[.int .i64 m, .int .i64 c, (Value.bool (o).opaq), (Value.int .i64 (o).id), (Value.string ⟨((o).scheme).toArray⟩), (Value.string ⟨(((o).host).name).toArray⟩), (Value.bool ((o).host).v4), (Value.int .u32 (((o).host).addr : Int)), (Value.int .i64 (o).port), .int .i64 cp] 54)) = W0
  have hw0 : Below w.heap.size w W0 := by rw [← hW0]; (exact bw_)
  have hBR : Blk W0 (w.heap.size) 54 #[.int .i64 m, .int .i64 c, (Value.bool (o).opaq), (Value.int .i64 (o).id), (Value.string ⟨((o).scheme).toArray⟩), (Value.string ⟨(((o).host).name).toArray⟩), (Value.bool ((o).host).v4), (Value.int .u32 (((o).host).addr : Int)), (Value.int .i64 (o).port), .int .i64 cp] := by rw [← hW0]; exact (Blk.new _ _ _)
  clear hW0
  have hwz := hw0.size
  have hRl := hBR.lt
  have hRc := hBR.cell
  have hRf := hBR.frozen
  go_upto_region 5 with (first | ((first | (go_at_call 22; refine (hup.out _ (bw_)).mono ?_) | (go_at_call 26; refine (hsm.out _ (bw_)).mono ?_)); rintro e w1 ⟨rfl, hb⟩; obtain ⟨hc, hfz⟩ := bcell hb; have hz := hb.size; (try simp at hz); (try have hz0 := lt_ hb w.heap.size); (try have hz1 := lt_ hb (w.heap.size + 1)); (try have hz2 := lt_ hb (w.heap.size + 2)); (try have hz3 := lt_ hb (w.heap.size + 3)); (try have hcA := fun o => hc w.heap.size o sz_); (try have hcB := fun o => hc (w.heap.size + 1) o sz_)))
  go_cut [7] from 12 (fun x7 w' => x7 = .bool p0 ∧ Below w.heap.size w w' ∧ Blk w' (w.heap.size) 54 #[.int .i64 m, .int .i64 c, (Value.bool (o).opaq), (Value.int .i64 (o).id), (Value.string ⟨((o).scheme).toArray⟩), (Value.string ⟨(((o).host).name).toArray⟩), (Value.bool ((o).host).v4), (Value.int .u32 (((o).host).addr : Int)), (Value.int .i64 (o).port), .int .i64 cp])
  case first =>
    have hp2 := hp1.out
    by_cases h1 : 0 < L.length
    · by_cases h21 : L.length ≤ 21
      · obtain rfl : true = p0 := by rw [hp2, decide_eq_true (by omega : 1 ≤ L.length), decide_eq_true h21]; rfl
        clear hp2
        go_wp2_with fail
        go_meet
        case rel => exact ⟨by first | rfl | (congr 1; simp; omega), bw_, bk_⟩
      · obtain rfl : false = p0 := by rw [hp2, decide_eq_false h21, Bool.and_false]
        clear hp2
        have h22 : 21 < L.length := by omega
        go_wp2_with fail
        go_meet
        case rel => exact ⟨by first | rfl | (congr 1; simp; omega), bw_, bk_⟩
    · obtain rfl : false = p0 := by rw [hp2, decide_eq_false (by omega : ¬ 1 ≤ L.length)]; rfl
      clear hp2
      have h22 : L.length ≤ 0 := by omega
      go_wp2_with fail
      go_meet
      case rel => exact ⟨by first | rfl | (congr 1; simp; omega), bw_, bk_⟩
  case rest =>
  clear hw0 hwz hRl hRc hRf hBR 
  obtain ⟨rfl, hw0, hBR⟩ := hcut
  have hwz := hw0.size
  have hRl := hBR.lt
  have hRc := hBR.cell
  have hRf := hBR.frozen
  go_wp2_with fail
  go_loopw [7, 8, 9, 51, 52, 53, 54, 55, 56] (fun q i _ _ _ _ _ _ _ wr => ∃ (k : Nat) (p : Bool), k ≤ L.length ∧ q = .bool p ∧ i = .int .i64 (k : Int) ∧ Hid (mayK L k = p) ∧ Below w.heap.size w wr ∧ Blk wr w.heap.size 54 #[.int .i64 m, .int .i64 c, (Value.bool (o).opaq), (Value.int .i64 (o).id), (Value.string ⟨((o).scheme).toArray⟩), (Value.string ⟨(((o).host).name).toArray⟩), (Value.bool ((o).host).v4), (Value.int .u32 (((o).host).addr : Int)), (Value.int .i64 (o).port), .int .i64 cp]) (fun _ i _ _ _ _ _ _ _ _ => L.length - (intOf i).toNat)
  case atStart => exact ⟨0, p0, Nat.zero_le _, rfl, rfl, hp0, bw_, bk_⟩
  case round =>
    clear hw0 hwz hRl hRc hRf hBR
    obtain ⟨k, p, hk, rfl, rfl, hpk, hw0, hBR⟩ := hrel
    have hwz := hw0.size
    have hRl := hBR.lt
    have hRc := hBR.cell
    have hRf := hBR.frozen
    by_cases hlt : k < L.length
    · have hnt := fun W => urlp_net (hopAt L k).url W
      have hstep := mayK_succ hlt
      rw [hpk.out] at hstep
      obtain ⟨sb, so, sd, he, hsB, hcell⟩ := H.out.cells k hlt
      injection he with he1 he2 he3
      subst he1 he3
      have q0 := fun (W : World) (hW : Below w.heap.size w W) => (hW.cell (p := ⟨sb, so + k * 10 + 0, none⟩) hsB).trans (hcell 0 (by decide))
      have q1 := fun (W : World) (hW : Below w.heap.size w W) => (hW.cell (p := ⟨sb, so + k * 10 + 1, none⟩) hsB).trans (hcell 1 (by decide))
      have q2 := fun (W : World) (hW : Below w.heap.size w W) => (hW.cell (p := ⟨sb, so + k * 10 + 2, none⟩) hsB).trans (hcell 2 (by decide))
      have q3 := fun (W : World) (hW : Below w.heap.size w W) => (hW.cell (p := ⟨sb, so + k * 10 + 3, none⟩) hsB).trans (hcell 3 (by decide))
      have q4 := fun (W : World) (hW : Below w.heap.size w W) => (hW.cell (p := ⟨sb, so + k * 10 + 4, none⟩) hsB).trans (hcell 4 (by decide))
      have q5 := fun (W : World) (hW : Below w.heap.size w W) => (hW.cell (p := ⟨sb, so + k * 10 + 5, none⟩) hsB).trans (hcell 5 (by decide))
      have q6 := fun (W : World) (hW : Below w.heap.size w W) => (hW.cell (p := ⟨sb, so + k * 10 + 6, none⟩) hsB).trans (hcell 6 (by decide))
      have q7 := fun (W : World) (hW : Below w.heap.size w W) => (hW.cell (p := ⟨sb, so + k * 10 + 7, none⟩) hsB).trans (hcell 7 (by decide))
      have q8 := fun (W : World) (hW : Below w.heap.size w W) => (hW.cell (p := ⟨sb, so + k * 10 + 8, none⟩) hsB).trans (hcell 8 (by decide))
      have q9 := fun (W : World) (hW : Below w.heap.size w W) => (hW.cell (p := ⟨sb, so + k * 10 + 9, none⟩) hsB).trans (hcell 9 (by decide))
      rw [← hopAt_lt hlt] at q0 q1 q2 q3 q4 q5 q6 q7 q8 q9
      simp only [hopcells, Nat.add_zero, List.getElem?_toArray, List.getElem?_cons_zero, List.getElem?_cons_succ] at q0 q1 q2 q3 q4 q5 q6 q7 q8 q9
      clear hcell
      generalize hopAt L k = x at *
      generalize Gl.isNet x.url = n at *
      replace hnt := Lib.hid hnt
      have hsB1 : sb < wr.heap.size := by omega
      have x0 := q0 _ hw0
      have x1 := q1 _ hw0
      have x2 := q2 _ hw0
      have x3 := q3 _ hw0
      have x4 := q4 _ hw0
      have x5 := q5 _ hw0
      have x6 := q6 _ hw0
      have x7 := q7 _ hw0
      have x8 := q8 _ hw0
      clear hpk
      cases p
      · replace hstep : Hid (mayK L (k + 1) = false) := Lib.hid hstep
        go_wp2_with (go_at_call 20; refine (hnt.out _).mono ?_; rintro e w1 ⟨rfl, hb⟩; obtain ⟨hc, hfz⟩ := bcell hb; have hz := hb.size; (try simp at hz); (try have hz0 := lt_ hb w.heap.size); (try have hz1 := lt_ hb (w.heap.size + 1)); (try have hz2 := lt_ hb (w.heap.size + 2)); (try have hz3 := lt_ hb (w.heap.size + 3)); (try have hcA := fun o => hc w.heap.size o sz_); (try have hcB := fun o => hc (w.heap.size + 1) o sz_))
        go_roundw
        case rel => exact ⟨k + 1, _, by omega, rfl, by go_num, hstep, bw_, bk_⟩
        case measure => simp [intOf]; omega
      · cases n
        · by_cases h1 : L.length = 1
          · replace hstep : Hid (mayK L (k + 1) = true) := Lib.hid (by rw [hstep, decide_eq_true h1]; rfl)
            have h1a : L.length ≤ 1 := by omega
            have h1b : 1 ≤ L.length := by omega
            clear h1
            go_wp2_with (go_at_call 20; refine (hnt.out _).mono ?_; rintro e w1 ⟨rfl, hb⟩; obtain ⟨hc, hfz⟩ := bcell hb; have hz := hb.size; (try simp at hz); (try have hz0 := lt_ hb w.heap.size); (try have hz1 := lt_ hb (w.heap.size + 1)); (try have hz2 := lt_ hb (w.heap.size + 2)); (try have hz3 := lt_ hb (w.heap.size + 3)); (try have hcA := fun o => hc w.heap.size o sz_); (try have hcB := fun o => hc (w.heap.size + 1) o sz_))
            go_roundw
            case rel => exact ⟨k + 1, true, by omega, by first | rfl | (congr 1; simp; omega), by go_num, hstep, bw_, bk_⟩
            case measure => simp [intOf]; omega
          · replace hstep : Hid (mayK L (k + 1) = false) := Lib.hid (by rw [hstep, decide_eq_false h1]; rfl)
            have h1a : 1 < L.length := by omega
            clear h1
            go_wp2_with (go_at_call 20; refine (hnt.out _).mono ?_; rintro e w1 ⟨rfl, hb⟩; obtain ⟨hc, hfz⟩ := bcell hb; have hz := hb.size; (try simp at hz); (try have hz0 := lt_ hb w.heap.size); (try have hz1 := lt_ hb (w.heap.size + 1)); (try have hz2 := lt_ hb (w.heap.size + 2)); (try have hz3 := lt_ hb (w.heap.size + 3)); (try have hcA := fun o => hc w.heap.size o sz_); (try have hcB := fun o => hc (w.heap.size + 1) o sz_))
            go_roundw
            case rel => exact ⟨k + 1, false, by omega, by first | rfl | (congr 1; simp; omega), by go_num, hstep, bw_, bk_⟩
            case measure => simp [intOf]; omega
        · replace hstep : Hid (mayK L (k + 1) = true) := Lib.hid hstep
          go_wp2_with (go_at_call 20; refine (hnt.out _).mono ?_; rintro e w1 ⟨rfl, hb⟩; obtain ⟨hc, hfz⟩ := bcell hb; have hz := hb.size; (try simp at hz); (try have hz0 := lt_ hb w.heap.size); (try have hz1 := lt_ hb (w.heap.size + 1)); (try have hz2 := lt_ hb (w.heap.size + 2)); (try have hz3 := lt_ hb (w.heap.size + 3)); (try have hcA := fun o => hc w.heap.size o sz_); (try have hcB := fun o => hc (w.heap.size + 1) o sz_))
          go_roundw
          case rel => exact ⟨k + 1, _, by omega, rfl, by go_num, hstep, bw_, bk_⟩
          case measure => simp [intOf]; omega
    · obtain rfl : k = L.length := by omega
      have hm2 := hmay.out
      rw [hpk.out] at hm2
      clear hpk hp0 hp1 hmay
      rcases hm2 with ⟨rfl, hg⟩ | ⟨rfl, ⟨rfl, rfl⟩ | ⟨rfl, hr1, hr3⟩⟩
      · injection hg with hg1 hg2
        injection hg1 with hg3 hg4 hg5
        subst hg2 hg3 hg4 hg5
        go_wp2_with (go_at_call 27; refine (hwk.out _ (bw_)).mono ?_; rintro e w1 ⟨rfl, hb⟩; obtain ⟨hc, hfz⟩ := bcell hb; have hz := hb.size; (try simp at hz); (try have hz0 := lt_ hb w.heap.size); (try have hz1 := lt_ hb (w.heap.size + 1)); (try have hz2 := lt_ hb (w.heap.size + 2)); (try have hz3 := lt_ hb (w.heap.size + 3)); (try have hcA := fun o => hc w.heap.size o sz_); (try have hcB := fun o => hc (w.heap.size + 1) o sz_))
        go_ret
        exact ⟨rfl, bw_⟩
      · go_wp2_with (go_at_call 27; refine (hwk.out _ (bw_)).mono ?_; rintro e w1 ⟨rfl, hb⟩; obtain ⟨hc, hfz⟩ := bcell hb; have hz := hb.size; (try simp at hz); (try have hz0 := lt_ hb w.heap.size); (try have hz1 := lt_ hb (w.heap.size + 1)); (try have hz2 := lt_ hb (w.heap.size + 2)); (try have hz3 := lt_ hb (w.heap.size + 3)); (try have hcA := fun o => hc w.heap.size o sz_); (try have hcB := fun o => hc (w.heap.size + 1) o sz_))
        go_ret
        exact ⟨rfl, bw_⟩
      · go_wp2_with (go_at_call 27; refine (hwk.out _ (bw_)).mono ?_; rintro e w1 ⟨rfl, hb⟩; obtain ⟨hc, hfz⟩ := bcell hb; have hz := hb.size; (try simp at hz); (try have hz0 := lt_ hb w.heap.size); (try have hz1 := lt_ hb (w.heap.size + 1)); (try have hz2 := lt_ hb (w.heap.size + 2)); (try have hz3 := lt_ hb (w.heap.size + 3)); (try have hcA := fun o => hc w.heap.size o sz_); (try have hcB := fun o => hc (w.heap.size + 1) o sz_))
        go_ret
        exact ⟨rfl, bw_⟩
end Go.Proofs.YtbafofldgkigmaaGreatDoor
