/- glacislaw08.Few, glacislaw13.Small: heads and hops that are little. -/
import Derived.Test.YtbafofldgkigmaaGreatDoorHeads
namespace Go.Proofs.YtbafofldgkigmaaGreatDoor
open Go.RowKit
attribute [local irreducible] Calls
def lineP (h : Gl.Head) : Bool := decide (h.name.length ≤ 200) && decide (h.value.length ≤ 4000)
def few8P (L : List Gl.Head) : Bool := decide (L.length ≤ 100) && L.all lineP
theorem few8_out {L : List Gl.Head} (h : few8P L = true) : L.length ≤ 100 ∧ ∀ x ∈ L, x.name.length ≤ 200 ∧ x.value.length ≤ 4000 := by
  unfold few8P lineP at h
  simp only [Bool.and_eq_true, decide_eq_true_eq, List.all_eq_true] at h
  exact h
set_option maxRecDepth 100000 in
set_option maxHeartbeats 1000000 in
theorem law8_few (v : Value) (L : List Gl.Head) (w : World) (hv : Heads w v L) : Calls Tryz.prog 23 #[v] w (Ret w (.bool (few8P L))) := by
  generalize hR : few8P L = R
  unfold few8P at hR
  have H := Lib.hid hv
  obtain ⟨A, c, rfl⟩ := hv.form
  clear hv
  by_cases hl : 100 < L.length
  · have hf : Hid (R = false) := Lib.hid (by rw [← hR, decide_eq_false (by omega : ¬ L.length ≤ 100)]; rfl)
    go_enter Tryz.func23, Tryz.ntmps23
    go_wp2
    go_ret
    exact ⟨by rw [hf.out] <;> rfl, bw_⟩
  · replace hR : Hid (L.all lineP = R) := Lib.hid (by rw [← hR, decide_eq_true (by omega : L.length ≤ 100)]; rfl)
    go_enter Tryz.func23, Tryz.ntmps23
    go_wp2
    go_loop [3] (fun i => ∃ k : Nat, k ≤ L.length ∧ i = .int .i64 k ∧ Hid ((L.drop k).all lineP = R)) (fun i => L.length - (intOf i).toNat)
    case atStart => exact ⟨0, Nat.zero_le _, rfl, hR⟩
    case round =>
      obtain ⟨k, hk, rfl, hr⟩ := hrel
      by_cases hlt : k < L.length
      · obtain ⟨sb, so, sd, he, hsB, hcell⟩ := H.out.cells k hlt
        injection he with he1 he2 he3
        subst he1 he3
        have q0 := hcell 0 (by decide)
        have q1 := hcell 1 (by decide)
        clear hcell
        rw [drop_consX hlt, List.all_cons] at hr
        generalize L[k] = x at *
        obtain ⟨xn, xv⟩ := x
        simp only [hcells, Nat.add_zero, List.getElem?_toArray, List.getElem?_cons_zero, List.getElem?_cons_succ] at q0 q1
        by_cases h1 : 200 < xn.length
        · have hf : Hid (R = false) := Lib.hid (by rw [← hr.out]; unfold lineP; rw [decide_eq_false (by simp; omega : ¬ (Gl.Head.mk xn xv).name.length ≤ 200)]; rfl)
          clear hr
          go_wp2
          go_ret
          exact ⟨by rw [hf.out] <;> rfl, bw_⟩
        · by_cases h2 : 4000 < xv.length
          · have hf : Hid (R = false) := Lib.hid (by rw [← hr.out]; unfold lineP; rw [decide_eq_false (by simp; omega : ¬ (Gl.Head.mk xn xv).value.length ≤ 4000)]; simp)
            clear hr
            go_wp2
            go_ret
            exact ⟨by rw [hf.out] <;> rfl, bw_⟩
          · have hf : Hid ((L.drop (k + 1)).all lineP = R) := Lib.hid (by rw [← hr.out]; unfold lineP; rw [decide_eq_true (by simp; omega : (Gl.Head.mk xn xv).name.length ≤ 200), decide_eq_true (by simp; omega : (Gl.Head.mk xn xv).value.length ≤ 4000)]; rfl)
            clear hr
            go_wp2
            go_round
            case rel => exact ⟨k + 1, by omega, by go_num, hf⟩
            case measure => simp [intOf]; omega
      · have hf : Hid (R = true) := Lib.hid (by rw [← hr.out, List.drop_eq_nil_of_le (by omega)]; rfl)
        clear hr
        go_wp2
        go_ret
        exact ⟨by rw [hf.out] <;> rfl, bw_⟩
/-- A response: its URL, its head's slice, and what that holds. -/
structure Gl.Hop where
  url : Gl.URL
  vh : Value
  head : List Gl.Head
def hopcells (h : Gl.Hop) : Array Value := #[(Value.string ⟨((h.url).scheme).toArray⟩), (Value.string ⟨(((h.url).host).name).toArray⟩), (Value.bool ((h.url).host).v4), (Value.int .u32 (((h.url).host).addr : Int)), (Value.int .i64 (h.url).port), (Value.string ⟨((h.url).path).toArray⟩), (Value.bool (h.url).hasQuery), (Value.string ⟨((h.url).query).toArray⟩), (Value.string ⟨((h.url).rest).toArray⟩), h.vh]
def Hops (w : World) (v : Value) (L : List Gl.Hop) : Prop := Slots w w.heap.size v 10 (L.map hopcells) ∧ ∀ h ∈ L, Heads w h.vh h.head
theorem Hops.form {w : World} {v : Value} {L : List Gl.Hop} (h : Hops w v L) : ∃ A c, v = .slice A L.length c := by
  obtain ⟨⟨A, c, hv, _⟩, _⟩ := h
  exact ⟨A, c, by simpa using hv⟩
theorem Hops.below {w w' : World} {v : Value} {L : List Gl.Hop} (h : Hops w v L) (hb : Below w.heap.size w w') : Hops w' v L := ⟨h.1.below hb, fun x hx => (h.2 x hx).below hb⟩
theorem Hops.cells {w : World} {v : Value} {L : List Gl.Hop} (h : Hops w v L) (k : Nat) (hk : k < L.length) : ∃ b o c, v = .slice (some ⟨b, o, none⟩) L.length c ∧ b < w.heap.size ∧ ∀ i, i < 10 → w.cell? ⟨b, o + k * 10 + i, none⟩ = (hopcells L[k])[i]? := by
  obtain ⟨b, o, c, hv, hB, hc⟩ := Slots.cells h.1 k (by simpa using hk)
  exact ⟨b, o, c, by simpa using hv, hB, fun i hi => by have := hc k (by simpa using hk) i hi; simpa using this⟩
def urlP (u : Gl.URL) : Bool := decide (u.rest.length ≤ 3000) && decide (u.path.length ≤ 3000) && decide (u.query.length ≤ 3000) && decide (u.host.name.length ≤ 1000) && decide (u.scheme.length ≤ 100)
def hopP (h : Gl.Hop) : Bool := few8P h.head && decide (h.head.length ≤ 20) && urlP h.url
def smallHops (o : Gl.Origin) (L : List Gl.Hop) : Bool := decide (L.length ≤ 23) && decide (o.host.name.length ≤ 1000) && decide (o.scheme.length ≤ 1000) && L.all hopP
theorem hop_out {h : Gl.Hop} (e : hopP h = true) : few8P h.head = true ∧ h.head.length ≤ 20 ∧ h.url.rest.length ≤ 3000 ∧ h.url.path.length ≤ 3000 ∧ h.url.query.length ≤ 3000 ∧ h.url.host.name.length ≤ 1000 ∧ h.url.scheme.length ≤ 100 := by
  unfold hopP urlP at e
  simp only [Bool.and_eq_true, decide_eq_true_eq] at e
  exact ⟨e.1.1, e.1.2, e.2.1.1.1.1, e.2.1.1.1.2, e.2.1.1.2, e.2.1.2, e.2.2⟩
theorem smallHops_out {o : Gl.Origin} {L : List Gl.Hop} (e : smallHops o L = true) : L.length ≤ 23 ∧ o.host.name.length ≤ 1000 ∧ o.scheme.length ≤ 1000 ∧ ∀ h ∈ L, hopP h = true := by
  unfold smallHops at e
  simp only [Bool.and_eq_true, decide_eq_true_eq, List.all_eq_true] at e
  exact ⟨e.1.1.1, e.1.1.2, e.1.2, e.2⟩
set_option maxRecDepth 100000 in
set_option maxHeartbeats 4000000 in
theorem law13_small (m1 m2 m3 : Int) (o : Gl.Origin) (v : Value) (L : List Gl.Hop) (w : World) (hv : Hops w v L) : Calls Tryz.prog 26 #[.agg #[.int .i64 m1, .int .i64 m2, (Value.bool (o).opaq), (Value.int .i64 (o).id), (Value.string ⟨((o).scheme).toArray⟩), (Value.string ⟨(((o).host).name).toArray⟩), (Value.bool ((o).host).v4), (Value.int .u32 (((o).host).addr : Int)), (Value.int .i64 (o).port), .int .i64 m3], v] w (Ret w (.bool (smallHops o L))) := by
  generalize hR : smallHops o L = R
  unfold smallHops at hR
  have H := Lib.hid hv
  obtain ⟨A, c, rfl⟩ := hv.form
  clear hv
  by_cases hl1 : 23 < L.length
  · have hf : Hid (R = false) := Lib.hid (by rw [← hR, decide_eq_false (by omega : ¬ L.length ≤ 23)]; rfl)
    go_enter Tryz.func26, Tryz.ntmps26
    go_wp2
    go_ret
    exact ⟨by rw [hf.out] <;> rfl, bw_⟩
  by_cases hl2 : 1000 < o.host.name.length
  · have hf : Hid (R = false) := Lib.hid (by rw [← hR, decide_eq_false (by omega : ¬ o.host.name.length ≤ 1000)]; simp)
    go_enter Tryz.func26, Tryz.ntmps26
    go_wp2
    go_ret
    exact ⟨by rw [hf.out] <;> rfl, bw_⟩
  by_cases hl3 : 1000 < o.scheme.length
  · have hf : Hid (R = false) := Lib.hid (by rw [← hR, decide_eq_false (by omega : ¬ o.scheme.length ≤ 1000)]; simp)
    go_enter Tryz.func26, Tryz.ntmps26
    go_wp2
    go_ret
    exact ⟨by rw [hf.out] <;> rfl, bw_⟩
  replace hR : Hid (L.all hopP = R) := Lib.hid (by rw [← hR, decide_eq_true (by omega : L.length ≤ 23), decide_eq_true (by omega : o.host.name.length ≤ 1000), decide_eq_true (by omega : o.scheme.length ≤ 1000)]; rfl)
  go_enter Tryz.func26, Tryz.ntmps26
  go_wp2
  generalize hW0 : World.alloc _ _ = W0
  have hw0 : Below w.heap.size w W0 := by rw [← hW0]; (exact bw_)
  clear hW0
  go_loopw [5, 6, 7] (fun i _ _ wr => ∃ k : Nat, k ≤ L.length ∧ i = .int .i64 k ∧ Below w.heap.size w wr ∧ Hid ((L.drop k).all hopP = R)) (fun i _ _ _ => L.length - (intOf i).toNat)
  case atStart => exact ⟨0, Nat.zero_le _, rfl, hw0, hR⟩
  case round =>
    clear hw0
    obtain ⟨k, hk, rfl, hw0, hr⟩ := hrel
    have hwz := hw0.size
    by_cases hlt : k < L.length
    · obtain ⟨sb, so, sd, he, hsB, hcell⟩ := H.out.cells k hlt
      injection he with he1 he2 he3
      subst he1 he3
      have hx := fun (i : Nat) (hi : i < 10) => (hw0.cell (p := ⟨sb, so + k * 10 + i, none⟩) hsB).trans (hcell i hi)
      have h9 := fun (W : World) (hW : Below w.heap.size w W) => (hW.cell (p := ⟨sb, so + k * 10 + 9, none⟩) hsB).trans (hcell 9 (by decide))
      clear hcell
      have hfew := fun W (hW : Below w.heap.size w W) => law8_few L[k].vh L[k].head W ((H.out.2 _ (List.getElem_mem hlt)).below hW)
      obtain ⟨A3, d3, hvh⟩ := (H.out.2 _ (List.getElem_mem hlt)).form
      rw [drop_consX hlt, List.all_cons] at hr
      generalize L[k] = x at *
      obtain ⟨xu, xh, xL⟩ := x
      simp only at hvh hfew
      subst hvh
      simp only [hopcells] at hx h9
      have x0 := hx 0 (by decide)
      have x1 := hx 1 (by decide)
      have x2 := hx 2 (by decide)
      have x3 := hx 3 (by decide)
      have x4 := hx 4 (by decide)
      have x5 := hx 5 (by decide)
      have x6 := hx 6 (by decide)
      have x7 := hx 7 (by decide)
      have x8 := hx 8 (by decide)
      have x9 := hx 9 (by decide)
      simp only [Nat.add_zero, List.getElem?_toArray, List.getElem?_cons_zero, List.getElem?_cons_succ] at x0 x1 x2 x3 x4 x5 x6 x7 x8 x9 h9
      clear hx
      have hsB1 : sb < wr.heap.size := by omega
      replace hr : Hid ((few8P xL && decide (xL.length ≤ 20) && urlP xu && (L.drop (k + 1)).all hopP) = R) := hr
      generalize few8P xL = q at *
      replace hfew := Lib.hid hfew
      go_upto_region 7 with (go_at_call 23; refine (hfew.out _ (bw_)).mono ?_; rintro e w1 ⟨rfl, hb⟩; obtain ⟨hc, hfz⟩ := bcell hb; have hz := hb.size; (try simp at hz); (try have hz0 := lt_ hb w.heap.size); (try have hz1 := lt_ hb (w.heap.size + 1)); (try have hz2 := lt_ hb (w.heap.size + 2)); (try have hz3 := lt_ hb (w.heap.size + 3)); (try have hcA := fun o => hc w.heap.size o sz_); (try have hcB := fun o => hc (w.heap.size + 1) o sz_); (try (have i := cf_ hb g; obtain ⟨hcGg, hfGg, hzGg⟩ := i)))
      go_cut [7] from 38 (fun x7 w' => ∃ g, x7 = .pointer (some ⟨g, 0, none⟩) ∧ Below w.heap.size w w' ∧ Blk w' g 28 #[(Value.string ⟨((xu).scheme).toArray⟩), (Value.string ⟨(((xu).host).name).toArray⟩), (Value.bool ((xu).host).v4), (Value.int .u32 (((xu).host).addr : Int)), (Value.int .i64 (xu).port), (Value.string ⟨((xu).path).toArray⟩), (Value.bool (xu).hasQuery), (Value.string ⟨((xu).query).toArray⟩), (Value.string ⟨((xu).rest).toArray⟩)])
      case first =>
        go_wp2_with fail
        go_meet
        case rel => exact ⟨_, rfl, bw_, bk_⟩
      case rest =>
      clear hw0 hwz x0 x1 x2 x3 x4 x5 x6 x7 x8 x9 hfew hsB1
      obtain ⟨g, rfl, hw0, hBU⟩ := hcut
      have hwz := hw0.size
      have hUl := hBU.lt
      have hUc := hBU.cell
      have hUf := hBU.frozen
      have y9 := h9 _ hw0
      clear hBU h9
      unfold urlP at hr
      cases q
      · have hf : Hid (R = false) := Lib.hid (by rw [← hr.out]; rfl)
        clear hr
        go_wp2
        go_ret
        exact ⟨by rw [hf.out] <;> rfl, bw_⟩
      by_cases hc : 20 < xL.length
      · have hf : Hid (R = false) := Lib.hid (by rw [← hr.out, decide_eq_false (by omega : ¬ xL.length ≤ 20)]; simp)
        clear hr
        go_wp2
        go_ret
        exact ⟨by rw [hf.out] <;> rfl, bw_⟩
      have hcc : xL.length ≤ 20 := by omega
      replace hr := Lib.hid (by have := hr.out; rwa [decide_eq_true hcc] at this)
      clear hcc
      by_cases hc : 3000 < xu.rest.length
      · have hf : Hid (R = false) := Lib.hid (by rw [← hr.out, decide_eq_false (by omega : ¬ xu.rest.length ≤ 3000)]; simp)
        clear hr
        go_wp2
        go_ret
        exact ⟨by rw [hf.out] <;> rfl, bw_⟩
      have hcc : xu.rest.length ≤ 3000 := by omega
      replace hr := Lib.hid (by have := hr.out; rwa [decide_eq_true hcc] at this)
      clear hcc
      by_cases hc : 3000 < xu.path.length
      · have hf : Hid (R = false) := Lib.hid (by rw [← hr.out, decide_eq_false (by omega : ¬ xu.path.length ≤ 3000)]; simp)
        clear hr
        go_wp2
        go_ret
        exact ⟨by rw [hf.out] <;> rfl, bw_⟩
      have hcc : xu.path.length ≤ 3000 := by omega
      replace hr := Lib.hid (by have := hr.out; rwa [decide_eq_true hcc] at this)
      clear hcc
      by_cases hc : 3000 < xu.query.length
      · have hf : Hid (R = false) := Lib.hid (by rw [← hr.out, decide_eq_false (by omega : ¬ xu.query.length ≤ 3000)]; simp)
        clear hr
        go_wp2
        go_ret
        exact ⟨by rw [hf.out] <;> rfl, bw_⟩
      have hcc : xu.query.length ≤ 3000 := by omega
      replace hr := Lib.hid (by have := hr.out; rwa [decide_eq_true hcc] at this)
      clear hcc
      by_cases hc : 1000 < xu.host.name.length
      · have hf : Hid (R = false) := Lib.hid (by rw [← hr.out, decide_eq_false (by omega : ¬ xu.host.name.length ≤ 1000)]; simp)
        clear hr
        go_wp2
        go_ret
        exact ⟨by rw [hf.out] <;> rfl, bw_⟩
      have hcc : xu.host.name.length ≤ 1000 := by omega
      replace hr := Lib.hid (by have := hr.out; rwa [decide_eq_true hcc] at this)
      clear hcc
      by_cases hc : 100 < xu.scheme.length
      · have hf : Hid (R = false) := Lib.hid (by rw [← hr.out, decide_eq_false (by omega : ¬ xu.scheme.length ≤ 100)]; simp)
        clear hr
        go_wp2
        go_ret
        exact ⟨by rw [hf.out] <;> rfl, bw_⟩
      have hcc : xu.scheme.length ≤ 100 := by omega
      replace hr := Lib.hid (by have := hr.out; rwa [decide_eq_true hcc] at this)
      clear hcc
      have hf : Hid ((L.drop (k + 1)).all hopP = R) := Lib.hid (by have := hr.out; simpa using this)
      clear hr
      go_wp2
      go_roundw
      case rel => exact ⟨k + 1, by omega, by go_num, bw_, hf⟩
      case measure => simp [intOf]; omega
    · have hf : Hid (R = true) := Lib.hid (by rw [← hr.out, List.drop_eq_nil_of_le (by omega)]; rfl)
      clear hr
      go_wp2
      go_ret
      exact ⟨by rw [hf.out] <;> rfl, hw0⟩
end Go.Proofs.YtbafofldgkigmaaGreatDoor
