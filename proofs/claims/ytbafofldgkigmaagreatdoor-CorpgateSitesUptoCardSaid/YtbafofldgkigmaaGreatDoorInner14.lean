/- corpgate.Inner: does a resource policy let a response go? -/
import Derived.Test.YtbafofldgkigmaaGreatDoorCorp
import Derived.Test.YtbafofldgkigmaaGreatDoorHop
import Derived.Test.YtbafofldgkigmaaGreatDoorPlain14
namespace Go.Proofs.YtbafofldgkigmaaGreatDoor
open Go.RowKit
attribute [local irreducible] Calls
structure HopFit (u : Gl.URL) (hl : List Gl.Head) : Prop where
  heads : ∀ h ∈ hl, HeadFit h
  few : hl.length ≤ 1000000
  addr : u.host.addr < 4294967296
  name : u.host.name.length ≤ 1000
  rest : u.rest.length ≤ 3000
set_option maxRecDepth 100000 in
set_option maxHeartbeats 4000000 in
theorem corp_inner (o : Gl.Origin) (coep : Int) (nav creds : Bool) (u : Gl.URL) (vh : Value) (hl : List Gl.Head) (v : Value) (S : List (List UInt8)) (w : World) (hE : Env w) (ho : OFits o) (hH : Heads w vh hl) (hf : HopFit u hl) (hv : Sufs w v S) :
    Calls Tryz.prog 21 #[(Value.agg #[(Value.bool (o).opaq), (Value.int .i64 (o).id), (Value.string ⟨((o).scheme).toArray⟩), (Value.string ⟨(((o).host).name).toArray⟩), (Value.bool ((o).host).v4), (Value.int .u32 (((o).host).addr : Int)), (Value.int .i64 (o).port)]), .int .i64 coep, .bool nav, .agg #[(Value.string ⟨((u).scheme).toArray⟩), (Value.string ⟨(((u).host).name).toArray⟩), (Value.bool ((u).host).v4), (Value.int .u32 (((u).host).addr : Int)), (Value.int .i64 (u).port), (Value.string ⟨((u).path).toArray⟩), (Value.bool (u).hasQuery), (Value.string ⟨((u).query).toArray⟩), (Value.string ⟨((u).rest).toArray⟩), vh], .bool creds, v] w (Ret w (.bool (Gl.gateC o (Gl.originOf u 0) (Gl.isNet u) (Gl.corp hl) (Gl.strictC coep creds nav) S))) := by
  have hof := fun W (hW : Below w.heap.size w W) => origin_of u 0 W (hE.below hW) (by have := hf.rest; omega)
  have hnt := fun W => urlp_net u W
  have hcp := fun W (hW : Below w.heap.size w W) => embedhdr_corp vh hl W (hH.below hW) hf.heads hf.few
  have hrf := originOf_fits u 0 hf.addr hf.name
  generalize Gl.originOf u 0 = r at *
  have hsm := fun W => origin_same o r W
  have hss := fun W (hW : Below w.heap.size w W) => origin_same_site o r v S W (hE.below hW) ho hrf (hv.below hW)
  generalize Gl.isNet u = net at *
  generalize Gl.corp hl = K at *
  obtain ⟨R, hR⟩ : ∃ R, Gl.gateC o r net K (Gl.strictC coep creds nav) S = R := ⟨_, rfl⟩
  rw [hR]
  unfold Gl.gateC at hR
  obtain ⟨A3, d3, rfl⟩ := hH.form
  obtain ⟨vA, vc, rfl, _⟩ := id hv.strs
  generalize Gl.originSame o r = q1 at *
  generalize Gl.sameSite o r S = q2 at *
  obtain ⟨st, hst⟩ : ∃ st, Gl.strictC coep creds nav = st := ⟨_, rfl⟩
  rw [hst] at hR
  replace hR := Lib.hid hR
  replace hst := Lib.hid hst
  replace hof := Lib.hid hof
  replace hnt := Lib.hid hnt
  replace hcp := Lib.hid hcp
  replace hsm := Lib.hid hsm
  replace hss := Lib.hid hss
  clear hH hf ho hrf hv hE
  go_enter Tryz.func21, Tryz.ntmps21
  go_upto_region 1 with fail
  generalize hW0 : ((w.alloc (Obj.cells #[(Value.bool (o).opaq), (Value.int .i64 (o).id), (Value.string ⟨((o).scheme).toArray⟩), (Value.string ⟨(((o).host).name).toArray⟩), (Value.bool ((o).host).v4), (Value.int .u32 (((o).host).addr : Int)), (Value.int .i64 (o).port)] 35)).alloc (Obj.cells #[(Value.string ⟨((u).scheme).toArray⟩), (Value.string ⟨(((u).host).name).toArray⟩), (Value.bool ((u).host).v4), (Value.int .u32 (((u).host).addr : Int)), (Value.int .i64 (u).port), (Value.string ⟨((u).path).toArray⟩), (Value.bool (u).hasQuery), (Value.string ⟨((u).query).toArray⟩), (Value.string ⟨((u).rest).toArray⟩), .slice A3 hl.length d3] 31)) = W0
  have hw0 : Below w.heap.size w W0 := by rw [← hW0]; (exact bw_)
  have hBO : Blk W0 (w.heap.size) 35 #[(Value.bool (o).opaq), (Value.int .i64 (o).id), (Value.string ⟨((o).scheme).toArray⟩), (Value.string ⟨(((o).host).name).toArray⟩), (Value.bool ((o).host).v4), (Value.int .u32 (((o).host).addr : Int)), (Value.int .i64 (o).port)] := by rw [← hW0]; exact (Blk.alloc (Blk.new _ _ _) _)
  have hBH : Blk W0 (w.heap.size + 1) 31 #[(Value.string ⟨((u).scheme).toArray⟩), (Value.string ⟨(((u).host).name).toArray⟩), (Value.bool ((u).host).v4), (Value.int .u32 (((u).host).addr : Int)), (Value.int .i64 (u).port), (Value.string ⟨((u).path).toArray⟩), (Value.bool (u).hasQuery), (Value.string ⟨((u).query).toArray⟩), (Value.string ⟨((u).rest).toArray⟩), .slice A3 hl.length d3] := by rw [← hW0]; exact (by have := Blk.new (w.alloc (Obj.cells #[(Value.bool (o).opaq), (Value.int .i64 (o).id), (Value.string ⟨((o).scheme).toArray⟩), (Value.string ⟨(((o).host).name).toArray⟩), (Value.bool ((o).host).v4), (Value.int .u32 (((o).host).addr : Int)), (Value.int .i64 (o).port)] 35)) 31 #[(Value.string ⟨((u).scheme).toArray⟩), (Value.string ⟨(((u).host).name).toArray⟩), (Value.bool ((u).host).v4), (Value.int .u32 (((u).host).addr : Int)), (Value.int .i64 (u).port), (Value.string ⟨((u).path).toArray⟩), (Value.bool (u).hasQuery), (Value.string ⟨((u).query).toArray⟩), (Value.string ⟨((u).rest).toArray⟩), .slice A3 hl.length d3]; simpa [World.size_alloc] using this)
  clear hW0
  have hwz := hw0.size
  have hOl := hBO.lt
  have hOc := hBO.cell
  have hOf := hBO.frozen
  have hHl := hBH.lt
  have hHc := hBH.cell
  have hHf := hBH.frozen
  go_cut [13] from 16 (fun x13 w' => ∃ gA, x13 = .pointer (some ⟨gA, 0, none⟩) ∧ Below w.heap.size w w' ∧ Blk w' (w.heap.size) 35 #[(Value.bool (o).opaq), (Value.int .i64 (o).id), (Value.string ⟨((o).scheme).toArray⟩), (Value.string ⟨(((o).host).name).toArray⟩), (Value.bool ((o).host).v4), (Value.int .u32 (((o).host).addr : Int)), (Value.int .i64 (o).port)] ∧ Blk w' (w.heap.size + 1) 31 #[(Value.string ⟨((u).scheme).toArray⟩), (Value.string ⟨(((u).host).name).toArray⟩), (Value.bool ((u).host).v4), (Value.int .u32 (((u).host).addr : Int)), (Value.int .i64 (u).port), (Value.string ⟨((u).path).toArray⟩), (Value.bool (u).hasQuery), (Value.string ⟨((u).query).toArray⟩), (Value.string ⟨((u).rest).toArray⟩), .slice A3 hl.length d3] ∧ Blk w' (gA) 35 #[(Value.bool (r).opaq), (Value.int .i64 (r).id), (Value.string ⟨((r).scheme).toArray⟩), (Value.string ⟨(((r).host).name).toArray⟩), (Value.bool ((r).host).v4), (Value.int .u32 (((r).host).addr : Int)), (Value.int .i64 (r).port)])
  case first =>
    go_wp2_with (go_at_call 15; refine (hof.out _ (bw_)).mono ?_; rintro e w1 ⟨rfl, hb⟩; obtain ⟨hc, hfz⟩ := bcell hb; have hz := hb.size; (try simp at hz); (try have hz0 := lt_ hb w.heap.size); (try have hz1 := lt_ hb (w.heap.size + 1)); (try have hz2 := lt_ hb (w.heap.size + 2)); (try have hz3 := lt_ hb (w.heap.size + 3)); (try have hcA := fun o => hc w.heap.size o sz_); (try have hcB := fun o => hc (w.heap.size + 1) o sz_); (try (have i := cf_ hb gA; obtain ⟨hcGgA, hfGgA, hzGgA⟩ := i)))
    go_meet
    case rel => exact ⟨_, rfl, bw_, bk_, bk_, bk_⟩
  case rest =>
  clear hw0 hwz hOl hOc hOf hHl hHc hHf hBO hBH
  obtain ⟨gA, rfl, hw0, hBO, hBH, hBA⟩ := hcut
  have hwz := hw0.size
  have hOl := hBO.lt
  have hOc := hBO.cell
  have hOf := hBO.frozen
  have hHl := hBH.lt
  have hHc := hBH.cell
  have hHf := hBH.frozen
  have hAl := hBA.lt
  have hAc := hBA.cell
  have hAf := hBA.frozen
  go_upto_region 2 with fail
  go_cut [14] from 16 (fun x14 w' => x14 = .bool st ∧ Below w.heap.size w w' ∧ Blk w' (w.heap.size) 35 #[(Value.bool (o).opaq), (Value.int .i64 (o).id), (Value.string ⟨((o).scheme).toArray⟩), (Value.string ⟨(((o).host).name).toArray⟩), (Value.bool ((o).host).v4), (Value.int .u32 (((o).host).addr : Int)), (Value.int .i64 (o).port)] ∧ Blk w' (w.heap.size + 1) 31 #[(Value.string ⟨((u).scheme).toArray⟩), (Value.string ⟨(((u).host).name).toArray⟩), (Value.bool ((u).host).v4), (Value.int .u32 (((u).host).addr : Int)), (Value.int .i64 (u).port), (Value.string ⟨((u).path).toArray⟩), (Value.bool (u).hasQuery), (Value.string ⟨((u).query).toArray⟩), (Value.string ⟨((u).rest).toArray⟩), .slice A3 hl.length d3] ∧ Blk w' (gA) 35 #[(Value.bool (r).opaq), (Value.int .i64 (r).id), (Value.string ⟨((r).scheme).toArray⟩), (Value.string ⟨(((r).host).name).toArray⟩), (Value.bool ((r).host).v4), (Value.int .u32 (((r).host).addr : Int)), (Value.int .i64 (r).port)])
  case first =>
    have hst2 := hst.out
    unfold Gl.strictC at hst2
    by_cases k2 : coep = 2
    · obtain rfl : st = true := by rw [← hst2, k2]; rfl
      have k2b : (coep == 2) = true := by rw [beq_iff_eq]; exact k2
      clear hst2 k2
      go_wp2_with fail
      go_meet
      case rel => exact ⟨rfl, bw_, bk_, bk_, bk_⟩
    · have k2b : (coep == 2) = false := by rw [beq_eq_false_iff_ne]; exact k2
      by_cases k1 : coep = 1
      · have k1b : (coep == 1) = true := by rw [beq_iff_eq]; exact k1
        rw [k2b, k1b] at hst2
        clear k1 k2
        cases creds <;> cases nav <;> simp at hst2 <;> subst hst2
        all_goals go_wp2_with fail
        all_goals go_meet
        all_goals exact ⟨rfl, bw_, bk_, bk_, bk_⟩
      · have k1b : (coep == 1) = false := by rw [beq_eq_false_iff_ne]; exact k1
        rw [k2b, k1b] at hst2
        clear k1 k2
        simp at hst2
        subst hst2
        go_wp2_with fail
        go_meet
        case rel => exact ⟨rfl, bw_, bk_, bk_, bk_⟩
  case rest =>
  clear hw0 hwz hOl hOc hOf hHl hHc hHf hAl hAc hAf hBO hBH hBA hst
  obtain ⟨rfl, hw0, hBO, hBH, hBA⟩ := hcut
  have hwz := hw0.size
  have hOl := hBO.lt
  have hOc := hBO.cell
  have hOf := hBO.frozen
  have hHl := hBH.lt
  have hHc := hBH.cell
  have hHf := hBH.frozen
  have hAl := hBA.lt
  have hAc := hBA.cell
  have hAf := hBA.frozen
  cases net
  · have hf : Hid (R = true) := Lib.hid (by rw [← hR.out, if_pos rfl])
    clear hR
    go_wp2_with (first | ((first | (go_at_call 56; refine (hcp.out _ (bw_)).mono ?_) | (go_at_call 20; refine (hnt.out _).mono ?_) | (go_at_call 58; refine (hsm.out _).mono ?_) | (go_at_call 57; refine (hss.out _ (bw_)).mono ?_)); rintro e w1 ⟨rfl, hb⟩; obtain ⟨hc, hfz⟩ := bcell hb; have hz := hb.size; (try simp at hz); (try have hz0 := lt_ hb w.heap.size); (try have hz1 := lt_ hb (w.heap.size + 1)); (try have hz2 := lt_ hb (w.heap.size + 2)); (try have hz3 := lt_ hb (w.heap.size + 3)); (try have hcA := fun o => hc w.heap.size o sz_); (try have hcB := fun o => hc (w.heap.size + 1) o sz_); (try (have i := cf_ hb gA; obtain ⟨hcGgA, hfGgA, hzGgA⟩ := i))))
    go_ret
    exact ⟨by rw [hf.out] <;> rfl, bw_⟩
  replace hR := Lib.hid (by have := hR.out; rwa [if_neg (by decide)] at this)
  by_cases k2 : K = 2
  · subst k2
    replace hR := Lib.hid (by have := hR.out; rwa [if_pos rfl] at this)
    have hs1 : (o.scheme == [104, 116, 116, 112, 115]) = (o.scheme == Gl.https) := rfl
    have hs2 : (r.scheme == [104, 116, 116, 112, 115]) = (r.scheme == Gl.https) := rfl
    generalize (o.scheme == Gl.https) = s1 at *
    generalize (r.scheme == Gl.https) = s2 at *
    cases q2 <;> cases s1 <;> cases s2
    all_goals
      have hf := Lib.hid hR.out.symm
      clear hR
      go_wp2_with (first | ((first | (go_at_call 56; refine (hcp.out _ (bw_)).mono ?_) | (go_at_call 20; refine (hnt.out _).mono ?_) | (go_at_call 58; refine (hsm.out _).mono ?_) | (go_at_call 57; refine (hss.out _ (bw_)).mono ?_)); rintro e w1 ⟨rfl, hb⟩; obtain ⟨hc, hfz⟩ := bcell hb; have hz := hb.size; (try simp at hz); (try have hz0 := lt_ hb w.heap.size); (try have hz1 := lt_ hb (w.heap.size + 1)); (try have hz2 := lt_ hb (w.heap.size + 2)); (try have hz3 := lt_ hb (w.heap.size + 3)); (try have hcA := fun o => hc w.heap.size o sz_); (try have hcB := fun o => hc (w.heap.size + 1) o sz_); (try (have i := cf_ hb gA; obtain ⟨hcGgA, hfGgA, hzGgA⟩ := i))))
      go_ret
      exact ⟨by rw [hf.out] <;> rfl, bw_⟩
  replace hR := Lib.hid (by have := hR.out; rwa [if_neg k2] at this)
  have k2b : (K == 2) = false := by rw [beq_eq_false_iff_ne]; exact k2
  by_cases k0 : K = 0
  · subst k0
    clear k2 k2b
    cases st
    · have hf : Hid (R = true) := Lib.hid (by rw [← hR.out, if_neg (by decide)])
      clear hR
      go_wp2_with (first | ((first | (go_at_call 56; refine (hcp.out _ (bw_)).mono ?_) | (go_at_call 20; refine (hnt.out _).mono ?_) | (go_at_call 58; refine (hsm.out _).mono ?_) | (go_at_call 57; refine (hss.out _ (bw_)).mono ?_)); rintro e w1 ⟨rfl, hb⟩; obtain ⟨hc, hfz⟩ := bcell hb; have hz := hb.size; (try simp at hz); (try have hz0 := lt_ hb w.heap.size); (try have hz1 := lt_ hb (w.heap.size + 1)); (try have hz2 := lt_ hb (w.heap.size + 2)); (try have hz3 := lt_ hb (w.heap.size + 3)); (try have hcA := fun o => hc w.heap.size o sz_); (try have hcB := fun o => hc (w.heap.size + 1) o sz_); (try (have i := cf_ hb gA; obtain ⟨hcGgA, hfGgA, hzGgA⟩ := i))))
      go_ret
      exact ⟨by rw [hf.out] <;> rfl, bw_⟩
    · have hf : Hid (R = q1) := Lib.hid (by rw [← hR.out, if_pos (Or.inl ⟨rfl, rfl⟩)])
      clear hR
      go_wp2_with (first | ((first | (go_at_call 56; refine (hcp.out _ (bw_)).mono ?_) | (go_at_call 20; refine (hnt.out _).mono ?_) | (go_at_call 58; refine (hsm.out _).mono ?_) | (go_at_call 57; refine (hss.out _ (bw_)).mono ?_)); rintro e w1 ⟨rfl, hb⟩; obtain ⟨hc, hfz⟩ := bcell hb; have hz := hb.size; (try simp at hz); (try have hz0 := lt_ hb w.heap.size); (try have hz1 := lt_ hb (w.heap.size + 1)); (try have hz2 := lt_ hb (w.heap.size + 2)); (try have hz3 := lt_ hb (w.heap.size + 3)); (try have hcA := fun o => hc w.heap.size o sz_); (try have hcB := fun o => hc (w.heap.size + 1) o sz_); (try (have i := cf_ hb gA; obtain ⟨hcGgA, hfGgA, hzGgA⟩ := i))))
      go_ret
      exact ⟨by rw [hf.out] <;> rfl, bw_⟩
  have k0b : (K == 0) = false := by rw [beq_eq_false_iff_ne]; exact k0
  by_cases k1 : K = 1
  · subst k1
    clear k0 k2 k0b k2b
    have hf : Hid (R = q1) := Lib.hid (by rw [← hR.out, if_pos (Or.inr rfl)])
    clear hR
    go_wp2_with (first | ((first | (go_at_call 56; refine (hcp.out _ (bw_)).mono ?_) | (go_at_call 20; refine (hnt.out _).mono ?_) | (go_at_call 58; refine (hsm.out _).mono ?_) | (go_at_call 57; refine (hss.out _ (bw_)).mono ?_)); rintro e w1 ⟨rfl, hb⟩; obtain ⟨hc, hfz⟩ := bcell hb; have hz := hb.size; (try simp at hz); (try have hz0 := lt_ hb w.heap.size); (try have hz1 := lt_ hb (w.heap.size + 1)); (try have hz2 := lt_ hb (w.heap.size + 2)); (try have hz3 := lt_ hb (w.heap.size + 3)); (try have hcA := fun o => hc w.heap.size o sz_); (try have hcB := fun o => hc (w.heap.size + 1) o sz_); (try (have i := cf_ hb gA; obtain ⟨hcGgA, hfGgA, hzGgA⟩ := i))))
    go_ret
    exact ⟨by rw [hf.out] <;> rfl, bw_⟩
  have k1b : (K == 1) = false := by rw [beq_eq_false_iff_ne]; exact k1
  have hf : Hid (R = true) := Lib.hid (by rw [← hR.out, if_neg (by rintro (⟨h, _⟩ | h); exact k0 h; exact k1 h)])
  clear hR k0 k1 k2
  go_wp2_with (first | ((first | (go_at_call 56; refine (hcp.out _ (bw_)).mono ?_) | (go_at_call 20; refine (hnt.out _).mono ?_) | (go_at_call 58; refine (hsm.out _).mono ?_) | (go_at_call 57; refine (hss.out _ (bw_)).mono ?_)); rintro e w1 ⟨rfl, hb⟩; obtain ⟨hc, hfz⟩ := bcell hb; have hz := hb.size; (try simp at hz); (try have hz0 := lt_ hb w.heap.size); (try have hz1 := lt_ hb (w.heap.size + 1)); (try have hz2 := lt_ hb (w.heap.size + 2)); (try have hz3 := lt_ hb (w.heap.size + 3)); (try have hcA := fun o => hc w.heap.size o sz_); (try have hcB := fun o => hc (w.heap.size + 1) o sz_); (try (have i := cf_ hb gA; obtain ⟨hcGgA, hfGgA, hzGgA⟩ := i))))
  go_ret
  exact ⟨by rw [hf.out] <;> rfl, bw_⟩
end Go.Proofs.YtbafofldgkigmaaGreatDoor
