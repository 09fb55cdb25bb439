/- glacislaw14.CorpgateSites. -/
import Derived.Test.YtbafofldgkigmaaGreatDoorPlain14c
namespace Go.Proofs.YtbafofldgkigmaaGreatDoor
open Go.RowKit
attribute [local irreducible] Calls
theorem slots14c {W : World} {g n : Nat} {c : Array Value} (hg : g < W.heap.size) (h : ∀ n0, W.cell? ⟨g, n0, none⟩ = c[n0]?) : Slots W W.heap.size (.slice (some ⟨g, 0, Option.none⟩) 1 1) n [c] :=
  ⟨some ⟨g, 0, none⟩, 1, rfl, Nat.le_refl _, by simp [maxLen], fun _ => ⟨g, 0, rfl, hg, fun j hj i _ => by
    obtain rfl : j = 0 := by simpa using hj
    show W.cell? ⟨g, 0 + 0 * n + i, none⟩ = _
    rw [show 0 + 0 * n + i = i by omega, h i]
    rfl⟩⟩
theorem cells14 {W : World} {g : Nat} {c : Array Value} (h : Blk W g 39 c) : ∀ n0, W.cell? ⟨g, n0, none⟩ = c[n0]? := h.cell
theorem same_opaq14 (a b : Gl.Origin) (h : Gl.originSame a b = true) : a.opaq = b.opaq := by
  unfold Gl.originSame at h
  cases ha : a.opaq <;> cases hb : b.opaq <;> rw [ha, hb] at h <;> simp at h <;> rfl
theorem gate_nets14 {u v : Gl.URL} (S : List Gl.Bs) (st : Bool) (h : Gl.isNet v = true) : Gl.gateC (netO u) (netO v) (Gl.isNet v) 2 st S = (Gl.sameSite (netO u) (netO v) S && ((u.scheme == Gl.https) || !(v.scheme == Gl.https))) := by
  unfold Gl.gateC
  rw [h, if_neg (by decide), if_pos rfl]
  rfl
theorem gate_netc14 {u v : Gl.URL} (S : List Gl.Bs) (st : Bool) (h : Gl.isNet v = true) : Gl.gateC (netO u) (netO v) (Gl.isNet v) 1 st S = Gl.originSame (netO u) (netO v) := by
  unfold Gl.gateC
  rw [h, if_neg (by decide), if_neg (by decide), if_pos (Or.inr rfl)]
theorem nets14 {u v : Gl.URL} (S : List Gl.Bs) (_ : Norm u) (_ : Norm v) {a b c es ea : Bool} (ha : (Gl.sameSite (netO u) (netO v) S && ((u.scheme == Gl.https) || !(v.scheme == Gl.https))) = a)
    (hb : (Gl.sameSite (netO v) (netO u) S && ((v.scheme == Gl.https) || !(u.scheme == Gl.https))) = b) (hc : Gl.originSame (netO u) (netO v) = c) (hes : (u.scheme == v.scheme) = es) (hea : (u.scheme == Gl.https) = ea) :
    (es = false ∨ a = b) ∧ (c = false ∨ a = true) ∧ (ea = false ∨ b = false ∨ a = true) := by
  rw [site_symm14] at hb
  refine ⟨?_, ?_, ?_⟩
  · cases es
    · exact Or.inl rfl
    · refine Or.inr ?_
      rw [← ha, ← hb, eq_of_beq hes]
  · cases c
    · exact Or.inl rfl
    · refine Or.inr ?_
      have h2 := hc
      unfold Gl.originSame at h2
      simp only [netO, Bool.false_and, Bool.false_eq_true, if_false, Bool.not_false, Bool.true_and, Bool.and_eq_true, beq_iff_eq] at h2
      obtain ⟨⟨h3, h4⟩, _⟩ := h2
      rw [← ha, h3]
      have : Gl.sameSite (netO u) (netO v) S = true := by
        unfold Gl.sameSite Gl.originSite
        simp only [netO, Bool.or_self, Bool.false_eq_true, if_false]
        rw [h4]
        simp
      rw [this]
      cases v.scheme == Gl.https <;> rfl
  · cases ea
    · exact Or.inl rfl
    · refine Or.inr ?_
      rw [hea] at ha hb
      rw [← ha, ← hb]
      cases Gl.sameSite (netO u) (netO v) S <;> simp
set_option maxRecDepth 100000 in
set_option maxHeartbeats 4000000 in
theorem law14_sites (s t : List UInt8) (coep : Int) (v : Value) (S : List (List UInt8)) (w : World) (hE : Env w) (hs : s.length ≤ 1048576) (ht : t.length ≤ 1048576) (hv : Strs w w.heap.size v S) :
    Calls Tryz.prog 4 #[(Value.string ⟨(s).toArray⟩), (Value.string ⟨(t).toArray⟩), .int .i64 coep, v] w (Ret w (.bool true)) := by
  have hsm : ∀ W, Below w.heap.size w W → Calls Tryz.prog 18 #[v] W (Ret W (.bool (smallS S))) := fun W hW => (law4_small v S W _ (hv.keep hW)).mono (fun _ _ h => h.ret)
  have hup := fun W (hW : Below w.heap.size w W) => awake14 W (hE.below hW)
  replace hup := Lib.hid hup
  have hsmo := @small_out S
  have hp1 := fun W (hW : Below w.heap.size w W) => urlp_parse s W (by omega) (hE.below hW)
  have hp2 := fun W (hW : Below w.heap.size w W) => urlp_parse t W (by omega) (hE.below hW)
  have hn1 := fun W => urlp_net (Gl.parse s).1 W
  have hn2 := fun W => urlp_net (Gl.parse t).1 W
  have hr1 := parse_rest_len s
  have hr2 := parse_rest_len t
  have hc1 : (Gl.parse s).2 = 0 → Gl.isNet (Gl.parse s).1 = true → Norm (Gl.parse s).1 := fun h1 h2 => (norm_of s h1 h2).1
  have hc2 : (Gl.parse t).2 = 0 → Gl.isNet (Gl.parse t).1 = true → Norm (Gl.parse t).1 := fun h1 h2 => (norm_of t h1 h2).1
  generalize Gl.parse s = p1 at *
  generalize Gl.parse t = p2 at *
  obtain ⟨u1, er1⟩ := p1
  obtain ⟨u2, er2⟩ := p2
  simp only at hp1 hp2 hn1 hn2 hr1 hr2 hc1 hc2
  obtain ⟨b1, hb1⟩ : ∃ b, Gl.isNet u1 = b := ⟨_, rfl⟩
  obtain ⟨b2, hb2⟩ : ∃ b, Gl.isNet u2 = b := ⟨_, rfl⟩
  rw [hb1] at hn1 hc1
  rw [hb2] at hn2 hc2
  generalize smallS S = b3 at *
  have hS := Lib.hid hv
  obtain ⟨vA, vc, rfl, hv1, hv2, _⟩ := hv
  unfold maxLen at hv2
  replace hsm := Lib.hid hsm
  replace hsmo := Lib.hid hsmo
  replace hp1 := Lib.hid hp1
  replace hp2 := Lib.hid hp2
  replace hn1 := Lib.hid hn1
  replace hn2 := Lib.hid hn2
  replace hc1 := Lib.hid hc1
  replace hc2 := Lib.hid hc2
  replace hb1 := Lib.hid hb1
  replace hb2 := Lib.hid hb2
  go_enter Tryz.func4, Tryz.ntmps4
  go_upto_region 3 with (first | (go_at_call 14; refine (hup.out _ (bw_)).mono ?_; rintro e w1 ⟨rfl, hb⟩; obtain ⟨hc, hfz⟩ := bcell hb; have hz := hb.size; (try simp at hz); (try have hz0 := lt_ hb w.heap.size); (try have hz1 := lt_ hb (w.heap.size + 1)); (try have hz2 := lt_ hb (w.heap.size + 2)); (try have hz3 := lt_ hb (w.heap.size + 3)); (try have hcA := fun o => hc w.heap.size o sz_); (try have hcB := fun o => hc (w.heap.size + 1) o sz_); (try (have i := cf_ hb g; obtain ⟨hcGg, hfGg, hzGg⟩ := i))) | (go_at_call 18; refine (hsm.out _ (bw_)).mono ?_; rintro e w1 ⟨rfl, hb⟩; obtain ⟨hc, hfz⟩ := bcell hb; have hz := hb.size; (try simp at hz); (try have hz0 := lt_ hb w.heap.size); (try have hz1 := lt_ hb (w.heap.size + 1)); (try have hz2 := lt_ hb (w.heap.size + 2)); (try have hz3 := lt_ hb (w.heap.size + 3)); (try have hcA := fun o => hc w.heap.size o sz_); (try have hcB := fun o => hc (w.heap.size + 1) o sz_); (try (have i := cf_ hb g; obtain ⟨hcGg, hfGg, hzGg⟩ := i)); (try (have i := cf_ hb gC; obtain ⟨hcGgC, hfGgC, hzGgC⟩ := i)); (try (have i := cf_ hb gD; obtain ⟨hcGgD, hfGgD, hzGgD⟩ := i))))
  go_cut [11, 12] from 23 (fun x11 x12 w' => ∃ gC, x11 = .pointer (some ⟨gC, 0, none⟩) ∧ x12 = .int .i64 er1 ∧ Below w.heap.size w w' ∧ Blk w' (gC) 28 #[(Value.string ⟨((u1).scheme).toArray⟩), (Value.string ⟨(((u1).host).name).toArray⟩), (Value.bool ((u1).host).v4), (Value.int .u32 (((u1).host).addr : Int)), (Value.int .i64 (u1).port), (Value.string ⟨((u1).path).toArray⟩), (Value.bool (u1).hasQuery), (Value.string ⟨((u1).query).toArray⟩), (Value.string ⟨((u1).rest).toArray⟩)])
  case first =>
    go_wp2_with (go_at_call 19; refine (hp1.out _ (bw_)).mono ?_; rintro e w1 ⟨rfl, hb⟩; obtain ⟨hc, hfz⟩ := bcell hb; have hz := hb.size; (try simp at hz); (try have hz0 := lt_ hb w.heap.size); (try have hz1 := lt_ hb (w.heap.size + 1)); (try have hz2 := lt_ hb (w.heap.size + 2)); (try have hz3 := lt_ hb (w.heap.size + 3)); (try have hcA := fun o => hc w.heap.size o sz_); (try have hcB := fun o => hc (w.heap.size + 1) o sz_); (try (have i := cf_ hb g; obtain ⟨hcGg, hfGg, hzGg⟩ := i)))
    go_meet
    case rel => exact ⟨_, rfl, rfl, bw_, bk_⟩
  case rest =>
  obtain ⟨gC, rfl, rfl, hw0, hBU⟩ := hcut
  have hwz := hw0.size
  have hUl := hBU.lt
  have hUc := hBU.cell
  have hUf := hBU.frozen
  go_upto_region 4 with fail
  go_cut [13, 14] from 23 (fun x13 x14 w' => ∃ gD, x13 = .pointer (some ⟨gD, 0, none⟩) ∧ x14 = .int .i64 er2 ∧ Below w.heap.size w w' ∧ Blk w' (gC) 28 #[(Value.string ⟨((u1).scheme).toArray⟩), (Value.string ⟨(((u1).host).name).toArray⟩), (Value.bool ((u1).host).v4), (Value.int .u32 (((u1).host).addr : Int)), (Value.int .i64 (u1).port), (Value.string ⟨((u1).path).toArray⟩), (Value.bool (u1).hasQuery), (Value.string ⟨((u1).query).toArray⟩), (Value.string ⟨((u1).rest).toArray⟩)] ∧ Blk w' (gD) 28 #[(Value.string ⟨((u2).scheme).toArray⟩), (Value.string ⟨(((u2).host).name).toArray⟩), (Value.bool ((u2).host).v4), (Value.int .u32 (((u2).host).addr : Int)), (Value.int .i64 (u2).port), (Value.string ⟨((u2).path).toArray⟩), (Value.bool (u2).hasQuery), (Value.string ⟨((u2).query).toArray⟩), (Value.string ⟨((u2).rest).toArray⟩)])
  case first =>
    go_wp2_with (go_at_call 19; refine (hp2.out _ (bw_)).mono ?_; rintro e w1 ⟨rfl, hb⟩; obtain ⟨hc, hfz⟩ := bcell hb; have hz := hb.size; (try simp at hz); (try have hz0 := lt_ hb w.heap.size); (try have hz1 := lt_ hb (w.heap.size + 1)); (try have hz2 := lt_ hb (w.heap.size + 2)); (try have hz3 := lt_ hb (w.heap.size + 3)); (try have hcA := fun o => hc w.heap.size o sz_); (try have hcB := fun o => hc (w.heap.size + 1) o sz_); (try (have i := cf_ hb g; obtain ⟨hcGg, hfGg, hzGg⟩ := i)))
    go_meet
    case rel => exact ⟨_, rfl, rfl, bw_, bk_, bk_⟩
  case rest =>
  clear hw0 hwz hBU hUl hUc hUf
  obtain ⟨gD, rfl, rfl, hw0, hBU, hBV⟩ := hcut
  have hwz := hw0.size
  have hUl := hBU.lt
  have hUc := hBU.cell
  have hUf := hBU.frozen
  have hVl := hBV.lt
  have hVc := hBV.cell
  have hVf := hBV.frozen
  go_upto_region 7 with (first | ((first | (go_at_call 20; refine (hn1.out _).mono ?_) | (go_at_call 20; refine (hn2.out _).mono ?_)); rintro e w1 ⟨rfl, hb⟩; obtain ⟨hc, hfz⟩ := bcell hb; have hz := hb.size; (try simp at hz); (try have hz0 := lt_ hb w.heap.size); (try have hz1 := lt_ hb (w.heap.size + 1)); (try have hz2 := lt_ hb (w.heap.size + 2)); (try have hz3 := lt_ hb (w.heap.size + 3)); (try have hcA := fun o => hc w.heap.size o sz_); (try have hcB := fun o => hc (w.heap.size + 1) o sz_); (try (have i := cf_ hb g; obtain ⟨hcGg, hfGg, hzGg⟩ := i)); (try (have i := cf_ hb gC; obtain ⟨hcGgC, hfGgC, hzGgC⟩ := i)); (try (have i := cf_ hb gD; obtain ⟨hcGgD, hfGgD, hzGgD⟩ := i))))
  by_cases l1 : 1000 < s.length
  · skip
    go_wp2_with fail
    go_ret
    exact ⟨rfl, bw_⟩
  by_cases l2 : 1000 < t.length
  · skip
    go_wp2_with fail
    go_ret
    exact ⟨rfl, bw_⟩
  by_cases e1 : er1 = 0
  case neg =>
    have e1b : (er1 != 0) = true := by rw [bne_iff_ne]; exact e1
    replace e1 := Lib.hid e1
    go_wp2_with fail
    go_ret
    exact ⟨rfl, bw_⟩
  subst e1
  by_cases e2 : er2 = 0
  case neg =>
    have e2b : (er2 != 0) = true := by rw [bne_iff_ne]; exact e2
    replace e2 := Lib.hid e2
    go_wp2_with fail
    go_ret
    exact ⟨rfl, bw_⟩
  subst e2
  cases b1
  · skip
    go_wp2_with fail
    go_ret
    exact ⟨rfl, bw_⟩
  cases b2
  · skip
    go_wp2_with fail
    go_ret
    exact ⟨rfl, bw_⟩
  cases b3
  · skip
    go_wp2_with fail
    go_ret
    exact ⟨rfl, bw_⟩
  have hN1 := hc1.out rfl rfl
  have hN2 := hc2.out rfl rfl
  obtain ⟨hs1, hs2⟩ := hsmo.out rfl
  have hSu : Sufs w (.slice vA S.length vc) S := ⟨hS.out, by omega, fun y hy => by have := hs2 y hy; omega⟩
  have hG1 : HopFit u1 [] := by
    obtain ⟨n, hn⟩ := hN1.host
    exact ⟨(by intro x hx; cases hx), by decide, (host_back n _ hn).2.1, by have := hN1.name_len; omega, by omega⟩
  have hG2 : HopFit u2 [] := by
    obtain ⟨n, hn⟩ := hN2.host
    exact ⟨(by intro x hx; cases hx), by decide, (host_back n _ hn).2.1, by have := hN2.name_len; omega, by omega⟩
  have hF1 : OFits (netO u1) := by
    have := originOf_fits u1 0 hG1.addr hG1.name
    rw [of_net14 hb1.out] at this
    exact this
  have hF2 : OFits (netO u2) := by
    have := originOf_fits u2 0 hG2.addr hG2.name
    rw [of_net14 hb2.out] at this
    exact this
  have hof1 : ∀ W, Below w.heap.size w W → Calls Tryz.prog 15 #[(Value.agg #[(Value.string ⟨((u1).scheme).toArray⟩), (Value.string ⟨(((u1).host).name).toArray⟩), (Value.bool ((u1).host).v4), (Value.int .u32 (((u1).host).addr : Int)), (Value.int .i64 (u1).port), (Value.string ⟨((u1).path).toArray⟩), (Value.bool (u1).hasQuery), (Value.string ⟨((u1).query).toArray⟩), (Value.string ⟨((u1).rest).toArray⟩)]), .int .i64 0] W (Ret W ((Value.agg #[(Value.bool (netO u1).opaq), (Value.int .i64 (netO u1).id), (Value.string ⟨((netO u1).scheme).toArray⟩), (Value.string ⟨(((netO u1).host).name).toArray⟩), (Value.bool ((netO u1).host).v4), (Value.int .u32 (((netO u1).host).addr : Int)), (Value.int .i64 (netO u1).port)]))) := fun W hW => by
    have := origin_of u1 0 W (hE.below hW) (by omega)
    rw [of_net14 hb1.out] at this
    exact this
  have hof2 : ∀ W, Below w.heap.size w W → Calls Tryz.prog 15 #[(Value.agg #[(Value.string ⟨((u2).scheme).toArray⟩), (Value.string ⟨(((u2).host).name).toArray⟩), (Value.bool ((u2).host).v4), (Value.int .u32 (((u2).host).addr : Int)), (Value.int .i64 (u2).port), (Value.string ⟨((u2).path).toArray⟩), (Value.bool (u2).hasQuery), (Value.string ⟨((u2).query).toArray⟩), (Value.string ⟨((u2).rest).toArray⟩)]), .int .i64 0] W (Ret W ((Value.agg #[(Value.bool (netO u2).opaq), (Value.int .i64 (netO u2).id), (Value.string ⟨((netO u2).scheme).toArray⟩), (Value.string ⟨(((netO u2).host).name).toArray⟩), (Value.bool ((netO u2).host).v4), (Value.int .u32 (((netO u2).host).addr : Int)), (Value.int .i64 (netO u2).port)]))) := fun W hW => by
    have := origin_of u2 0 W (hE.below hW) (by omega)
    rw [of_net14 hb2.out] at this
    exact this
  obtain ⟨ra, ha⟩ : ∃ r, (Gl.sameSite (netO u1) (netO u2) S && ((u1.scheme == Gl.https) || !(u2.scheme == Gl.https))) = r := ⟨_, rfl⟩
  obtain ⟨rb, hb⟩ : ∃ r, (Gl.sameSite (netO u2) (netO u1) S && ((u2.scheme == Gl.https) || !(u1.scheme == Gl.https))) = r := ⟨_, rfl⟩
  obtain ⟨rc, hc⟩ : ∃ r, Gl.originSame (netO u1) (netO u2) = r := ⟨_, rfl⟩
  have hA : ∀ g W, Below w.heap.size w W → g < W.heap.size → (∀ n0, W.cell? ⟨g, n0, none⟩ = (#[.string ⟨#[99, 114, 111, 115, 115, 45, 111, 114, 105, 103, 105, 110, 45, 114, 101, 115, 111, 117, 114, 99, 101, 45, 112, 111, 108, 105, 99, 121]⟩, .string ⟨#[115, 97, 109, 101, 45, 115, 105, 116, 101]⟩] : Array Value)[n0]?) → Calls Tryz.prog 21 #[(Value.agg #[(Value.bool (netO u1).opaq), (Value.int .i64 (netO u1).id), (Value.string ⟨((netO u1).scheme).toArray⟩), (Value.string ⟨(((netO u1).host).name).toArray⟩), (Value.bool ((netO u1).host).v4), (Value.int .u32 (((netO u1).host).addr : Int)), (Value.int .i64 (netO u1).port)]), .int .i64 coep, .bool true, .agg #[(Value.string ⟨((u2).scheme).toArray⟩), (Value.string ⟨(((u2).host).name).toArray⟩), (Value.bool ((u2).host).v4), (Value.int .u32 (((u2).host).addr : Int)), (Value.int .i64 (u2).port), (Value.string ⟨((u2).path).toArray⟩), (Value.bool (u2).hasQuery), (Value.string ⟨((u2).query).toArray⟩), (Value.string ⟨((u2).rest).toArray⟩), .slice (some ⟨g, 0, none⟩) 1 1], .bool true, .slice vA S.length vc] W (Ret W (.bool ra)) := fun g W hW hg hcl => by
    have := corp_inner (netO u1) coep true true u2 (.slice (some ⟨g, 0, none⟩) 1 1) [hd14t] (.slice vA S.length vc) S W (hE.below hW) hF1 (slots14c (c := hcells hd14t) hg hcl) (hop14t hG2) (hSu.below hW)
    rw [of_net14 hb2.out, corp14.2.1, gate_nets14 S _ hb2.out, ha] at this
    exact this
  have hB : ∀ g W, Below w.heap.size w W → g < W.heap.size → (∀ n0, W.cell? ⟨g, n0, none⟩ = (#[.string ⟨#[99, 114, 111, 115, 115, 45, 111, 114, 105, 103, 105, 110, 45, 114, 101, 115, 111, 117, 114, 99, 101, 45, 112, 111, 108, 105, 99, 121]⟩, .string ⟨#[115, 97, 109, 101, 45, 115, 105, 116, 101]⟩] : Array Value)[n0]?) → Calls Tryz.prog 21 #[(Value.agg #[(Value.bool (netO u2).opaq), (Value.int .i64 (netO u2).id), (Value.string ⟨((netO u2).scheme).toArray⟩), (Value.string ⟨(((netO u2).host).name).toArray⟩), (Value.bool ((netO u2).host).v4), (Value.int .u32 (((netO u2).host).addr : Int)), (Value.int .i64 (netO u2).port)]), .int .i64 coep, .bool true, .agg #[(Value.string ⟨((u1).scheme).toArray⟩), (Value.string ⟨(((u1).host).name).toArray⟩), (Value.bool ((u1).host).v4), (Value.int .u32 (((u1).host).addr : Int)), (Value.int .i64 (u1).port), (Value.string ⟨((u1).path).toArray⟩), (Value.bool (u1).hasQuery), (Value.string ⟨((u1).query).toArray⟩), (Value.string ⟨((u1).rest).toArray⟩), .slice (some ⟨g, 0, none⟩) 1 1], .bool true, .slice vA S.length vc] W (Ret W (.bool rb)) := fun g W hW hg hcl => by
    have := corp_inner (netO u2) coep true true u1 (.slice (some ⟨g, 0, none⟩) 1 1) [hd14t] (.slice vA S.length vc) S W (hE.below hW) hF2 (slots14c (c := hcells hd14t) hg hcl) (hop14t hG1) (hSu.below hW)
    rw [of_net14 hb1.out, corp14.2.1, gate_nets14 S _ hb1.out, hb] at this
    exact this
  have hC : ∀ g W, Below w.heap.size w W → g < W.heap.size → (∀ n0, W.cell? ⟨g, n0, none⟩ = (#[.string ⟨#[99, 114, 111, 115, 115, 45, 111, 114, 105, 103, 105, 110, 45, 114, 101, 115, 111, 117, 114, 99, 101, 45, 112, 111, 108, 105, 99, 121]⟩, .string ⟨#[115, 97, 109, 101, 45, 111, 114, 105, 103, 105, 110]⟩] : Array Value)[n0]?) → Calls Tryz.prog 21 #[(Value.agg #[(Value.bool (netO u1).opaq), (Value.int .i64 (netO u1).id), (Value.string ⟨((netO u1).scheme).toArray⟩), (Value.string ⟨(((netO u1).host).name).toArray⟩), (Value.bool ((netO u1).host).v4), (Value.int .u32 (((netO u1).host).addr : Int)), (Value.int .i64 (netO u1).port)]), .int .i64 coep, .bool false, .agg #[(Value.string ⟨((u2).scheme).toArray⟩), (Value.string ⟨(((u2).host).name).toArray⟩), (Value.bool ((u2).host).v4), (Value.int .u32 (((u2).host).addr : Int)), (Value.int .i64 (u2).port), (Value.string ⟨((u2).path).toArray⟩), (Value.bool (u2).hasQuery), (Value.string ⟨((u2).query).toArray⟩), (Value.string ⟨((u2).rest).toArray⟩), .slice (some ⟨g, 0, none⟩) 1 1], .bool false, .slice vA S.length vc] W (Ret W (.bool rc)) := fun g W hW hg hcl => by
    have := corp_inner (netO u1) coep false false u2 (.slice (some ⟨g, 0, none⟩) 1 1) [hd14o] (.slice vA S.length vc) S W (hE.below hW) hF1 (slots14c (c := hcells hd14o) hg hcl) (hop14o hG2) (hSu.below hW)
    rw [of_net14 hb2.out, corp14.2.2, gate_netc14 S _ hb2.out, hc] at this
    exact this
  obtain ⟨es, hes⟩ : ∃ r, (u1.scheme == u2.scheme) = r := ⟨_, rfl⟩
  obtain ⟨ea, hea⟩ : ∃ r, (u1.scheme == [104, 116, 116, 112, 115]) = r := ⟨_, rfl⟩
  have hcases := nets14 S hN1 hN2 ha hb hc hes hea
  clear hc1 hc2 hsmo hs2 hr1 hr2 hp1 hp2 hn1 hn2 hsm hup ha hb hc hS hG1 hG2 hF1 hF2 hN1 hN2 hb1 hb2 hs1 hSu
  generalize netO u1 = oa at *
  generalize netO u2 = ob at *
  replace hA := Lib.hid hA
  replace hB := Lib.hid hB
  replace hC := Lib.hid hC
  replace hof1 := Lib.hid hof1
  replace hof2 := Lib.hid hof2
  replace hcases := Lib.hid hcases
  replace hes := Lib.hid hes
  replace hea := Lib.hid hea
  go_upto_region 9 with fail
  go_cut [17] from 23 (fun x17 w' => ∃ gH, x17 = .slice (some ⟨gH, 0, none⟩) 1 1 ∧ Below w.heap.size w w' ∧ Blk w' (gC) 28 #[(Value.string ⟨((u1).scheme).toArray⟩), (Value.string ⟨(((u1).host).name).toArray⟩), (Value.bool ((u1).host).v4), (Value.int .u32 (((u1).host).addr : Int)), (Value.int .i64 (u1).port), (Value.string ⟨((u1).path).toArray⟩), (Value.bool (u1).hasQuery), (Value.string ⟨((u1).query).toArray⟩), (Value.string ⟨((u1).rest).toArray⟩)] ∧ Blk w' (gD) 28 #[(Value.string ⟨((u2).scheme).toArray⟩), (Value.string ⟨(((u2).host).name).toArray⟩), (Value.bool ((u2).host).v4), (Value.int .u32 (((u2).host).addr : Int)), (Value.int .i64 (u2).port), (Value.string ⟨((u2).path).toArray⟩), (Value.bool (u2).hasQuery), (Value.string ⟨((u2).query).toArray⟩), (Value.string ⟨((u2).rest).toArray⟩)] ∧ Blk w' (gH) 39 #[.string ⟨#[99, 114, 111, 115, 115, 45, 111, 114, 105, 103, 105, 110, 45, 114, 101, 115, 111, 117, 114, 99, 101, 45, 112, 111, 108, 105, 99, 121]⟩, .string ⟨#[115, 97, 109, 101, 45, 115, 105, 116, 101]⟩])
  case first =>
    go_wp2_with fail
    go_meet
    case rel => exact ⟨_, rfl, bw_, bk_, bk_, bk_⟩
  case rest =>
  clear hw0 hwz hUl hUc hUf hVl hVc hVf hBU hBV
  obtain ⟨gH, rfl, hw0, hBU, hBV, hBH⟩ := hcut
  have hwz := hw0.size
  have hUl := hBU.lt
  have hUc := hBU.cell
  have hUf := hBU.frozen
  have hVl := hBV.lt
  have hVc := hBV.cell
  have hVf := hBV.frozen
  have hHl := hBH.lt
  have hHc := hBH.cell
  have hHf := hBH.frozen
  go_upto_region 10 with fail
  go_cut [18] from 23 (fun x18 w' => ∃ gG, x18 = .slice (some ⟨gG, 0, none⟩) 1 1 ∧ Below w.heap.size w w' ∧ Blk w' (gC) 28 #[(Value.string ⟨((u1).scheme).toArray⟩), (Value.string ⟨(((u1).host).name).toArray⟩), (Value.bool ((u1).host).v4), (Value.int .u32 (((u1).host).addr : Int)), (Value.int .i64 (u1).port), (Value.string ⟨((u1).path).toArray⟩), (Value.bool (u1).hasQuery), (Value.string ⟨((u1).query).toArray⟩), (Value.string ⟨((u1).rest).toArray⟩)] ∧ Blk w' (gD) 28 #[(Value.string ⟨((u2).scheme).toArray⟩), (Value.string ⟨(((u2).host).name).toArray⟩), (Value.bool ((u2).host).v4), (Value.int .u32 (((u2).host).addr : Int)), (Value.int .i64 (u2).port), (Value.string ⟨((u2).path).toArray⟩), (Value.bool (u2).hasQuery), (Value.string ⟨((u2).query).toArray⟩), (Value.string ⟨((u2).rest).toArray⟩)] ∧ Blk w' (gH) 39 #[.string ⟨#[99, 114, 111, 115, 115, 45, 111, 114, 105, 103, 105, 110, 45, 114, 101, 115, 111, 117, 114, 99, 101, 45, 112, 111, 108, 105, 99, 121]⟩, .string ⟨#[115, 97, 109, 101, 45, 115, 105, 116, 101]⟩] ∧ Blk w' (gG) 39 #[.string ⟨#[99, 114, 111, 115, 115, 45, 111, 114, 105, 103, 105, 110, 45, 114, 101, 115, 111, 117, 114, 99, 101, 45, 112, 111, 108, 105, 99, 121]⟩, .string ⟨#[115, 97, 109, 101, 45, 111, 114, 105, 103, 105, 110]⟩])
  case first =>
    go_wp2_with fail
    go_meet
    case rel => exact ⟨_, rfl, bw_, bk_, bk_, bk_, bk_⟩
  case rest =>
  clear hw0 hwz hUl hUc hUf hVl hVc hVf hHl hHc hHf hBU hBV hBH
  obtain ⟨gG, rfl, hw0, hBU, hBV, hBH, hBG⟩ := hcut
  have hwz := hw0.size
  have hUl := hBU.lt
  have hUc := hBU.cell
  have hUf := hBU.frozen
  have hVl := hBV.lt
  have hVc := hBV.cell
  have hVf := hBV.frozen
  have hHl := hBH.lt
  have hHc := hBH.cell
  have hHf := hBH.frozen
  have hGl := hBG.lt
  have hGc := hBG.cell
  have hGf := hBG.frozen
  go_upto_region 11 with fail
  go_cut [19] from 23 (fun x19 w' => x19 = .bool ra ∧ Below w.heap.size w w' ∧ Blk w' (gC) 28 #[(Value.string ⟨((u1).scheme).toArray⟩), (Value.string ⟨(((u1).host).name).toArray⟩), (Value.bool ((u1).host).v4), (Value.int .u32 (((u1).host).addr : Int)), (Value.int .i64 (u1).port), (Value.string ⟨((u1).path).toArray⟩), (Value.bool (u1).hasQuery), (Value.string ⟨((u1).query).toArray⟩), (Value.string ⟨((u1).rest).toArray⟩)] ∧ Blk w' (gD) 28 #[(Value.string ⟨((u2).scheme).toArray⟩), (Value.string ⟨(((u2).host).name).toArray⟩), (Value.bool ((u2).host).v4), (Value.int .u32 (((u2).host).addr : Int)), (Value.int .i64 (u2).port), (Value.string ⟨((u2).path).toArray⟩), (Value.bool (u2).hasQuery), (Value.string ⟨((u2).query).toArray⟩), (Value.string ⟨((u2).rest).toArray⟩)] ∧ Blk w' (gH) 39 #[.string ⟨#[99, 114, 111, 115, 115, 45, 111, 114, 105, 103, 105, 110, 45, 114, 101, 115, 111, 117, 114, 99, 101, 45, 112, 111, 108, 105, 99, 121]⟩, .string ⟨#[115, 97, 109, 101, 45, 115, 105, 116, 101]⟩] ∧ Blk w' (gG) 39 #[.string ⟨#[99, 114, 111, 115, 115, 45, 111, 114, 105, 103, 105, 110, 45, 114, 101, 115, 111, 117, 114, 99, 101, 45, 112, 111, 108, 105, 99, 121]⟩, .string ⟨#[115, 97, 109, 101, 45, 111, 114, 105, 103, 105, 110]⟩])
  case first =>
    go_region_held3 (fun W => Below w.heap.size w W ∧ w.heap.size ≤ W.heap.size ∧ gC < W.heap.size ∧ gD < W.heap.size ∧ gH < W.heap.size ∧ gG < W.heap.size ∧ (∀ n0, W.cell? ⟨gC, n0, none⟩ = (#[(Value.string ⟨((u1).scheme).toArray⟩), (Value.string ⟨(((u1).host).name).toArray⟩), (Value.bool ((u1).host).v4), (Value.int .u32 (((u1).host).addr : Int)), (Value.int .i64 (u1).port), (Value.string ⟨((u1).path).toArray⟩), (Value.bool (u1).hasQuery), (Value.string ⟨((u1).query).toArray⟩), (Value.string ⟨((u1).rest).toArray⟩)] : Array Value)[n0]?) ∧ (∀ n0, W.cell? ⟨gD, n0, none⟩ = (#[(Value.string ⟨((u2).scheme).toArray⟩), (Value.string ⟨(((u2).host).name).toArray⟩), (Value.bool ((u2).host).v4), (Value.int .u32 (((u2).host).addr : Int)), (Value.int .i64 (u2).port), (Value.string ⟨((u2).path).toArray⟩), (Value.bool (u2).hasQuery), (Value.string ⟨((u2).query).toArray⟩), (Value.string ⟨((u2).rest).toArray⟩)] : Array Value)[n0]?) ∧ (∀ n0, W.cell? ⟨gH, n0, none⟩ = (#[.string ⟨#[99, 114, 111, 115, 115, 45, 111, 114, 105, 103, 105, 110, 45, 114, 101, 115, 111, 117, 114, 99, 101, 45, 112, 111, 108, 105, 99, 121]⟩, .string ⟨#[115, 97, 109, 101, 45, 115, 105, 116, 101]⟩] : Array Value)[n0]?) ∧ (∀ n0, W.cell? ⟨gG, n0, none⟩ = (#[.string ⟨#[99, 114, 111, 115, 115, 45, 111, 114, 105, 103, 105, 110, 45, 114, 101, 115, 111, 117, 114, 99, 101, 45, 112, 111, 108, 105, 99, 121]⟩, .string ⟨#[115, 97, 109, 101, 45, 111, 114, 105, 103, 105, 110]⟩] : Array Value)[n0]?)) ((refine ⟨bw_, by first | omega | (simp; omega), by first | omega | (simp; omega), by first | omega | (simp; omega), by first | omega | (simp; omega), by first | omega | (simp; omega), by exact Blk.cell (t := 28) (bk_), by exact Blk.cell (t := 28) (bk_), by exact Blk.cell (t := 39) (bk_), by exact Blk.cell (t := 39) (bk_)⟩)) (first | ((first | (go_at_call 15; refine (hof1.out _ (bw_)).mono ?_) | (go_at_call 21; refine (hA.out _ _ (bw_) sz_ (cells14 (bk_))).mono ?_)); rintro e w1 ⟨rfl, hb⟩; obtain ⟨hc, hfz⟩ := bcell hb; have hz := hb.size; (try simp at hz); (try have hz0 := lt_ hb w.heap.size); (try have hz1 := lt_ hb (w.heap.size + 1)); (try have hz2 := lt_ hb (w.heap.size + 2)); (try have hz3 := lt_ hb (w.heap.size + 3)); (try have hcA := fun o => hc w.heap.size o sz_); (try have hcB := fun o => hc (w.heap.size + 1) o sz_); (try (have i := cf_ hb g; obtain ⟨hcGg, hfGg, hzGg⟩ := i)); (try (have i := cf_ hb gC; obtain ⟨hcGgC, hfGgC, hzGgC⟩ := i)); (try (have i := cf_ hb gD; obtain ⟨hcGgD, hfGgD, hzGgD⟩ := i))))
    all_goals go_wp2_with fail
    all_goals go_meet
    all_goals exact ⟨rfl, bw_, bk_, bk_, bk_, bk_⟩
  case rest =>
  clear hw0 hwz hUl hUc hUf hVl hVc hVf hHl hHc hHf hGl hGc hGf hBU hBV hBH hBG
  obtain ⟨rfl, hw0, hBU, hBV, hBH, hBG⟩ := hcut
  have hwz := hw0.size
  have hUl := hBU.lt
  have hUc := hBU.cell
  have hUf := hBU.frozen
  have hVl := hBV.lt
  have hVc := hBV.cell
  have hVf := hBV.frozen
  have hHl := hBH.lt
  have hHc := hBH.cell
  have hHf := hBH.frozen
  have hGl := hBG.lt
  have hGc := hBG.cell
  have hGf := hBG.frozen
  go_upto_region 12 with fail
  go_cut [20] from 23 (fun x20 w' => x20 = .bool rb ∧ Below w.heap.size w w' ∧ Blk w' (gC) 28 #[(Value.string ⟨((u1).scheme).toArray⟩), (Value.string ⟨(((u1).host).name).toArray⟩), (Value.bool ((u1).host).v4), (Value.int .u32 (((u1).host).addr : Int)), (Value.int .i64 (u1).port), (Value.string ⟨((u1).path).toArray⟩), (Value.bool (u1).hasQuery), (Value.string ⟨((u1).query).toArray⟩), (Value.string ⟨((u1).rest).toArray⟩)] ∧ Blk w' (gD) 28 #[(Value.string ⟨((u2).scheme).toArray⟩), (Value.string ⟨(((u2).host).name).toArray⟩), (Value.bool ((u2).host).v4), (Value.int .u32 (((u2).host).addr : Int)), (Value.int .i64 (u2).port), (Value.string ⟨((u2).path).toArray⟩), (Value.bool (u2).hasQuery), (Value.string ⟨((u2).query).toArray⟩), (Value.string ⟨((u2).rest).toArray⟩)] ∧ Blk w' (gH) 39 #[.string ⟨#[99, 114, 111, 115, 115, 45, 111, 114, 105, 103, 105, 110, 45, 114, 101, 115, 111, 117, 114, 99, 101, 45, 112, 111, 108, 105, 99, 121]⟩, .string ⟨#[115, 97, 109, 101, 45, 115, 105, 116, 101]⟩] ∧ Blk w' (gG) 39 #[.string ⟨#[99, 114, 111, 115, 115, 45, 111, 114, 105, 103, 105, 110, 45, 114, 101, 115, 111, 117, 114, 99, 101, 45, 112, 111, 108, 105, 99, 121]⟩, .string ⟨#[115, 97, 109, 101, 45, 111, 114, 105, 103, 105, 110]⟩])
  case first =>
    go_region_held3 (fun W => Below w.heap.size w W ∧ w.heap.size ≤ W.heap.size ∧ gC < W.heap.size ∧ gD < W.heap.size ∧ gH < W.heap.size ∧ gG < W.heap.size ∧ (∀ n0, W.cell? ⟨gC, n0, none⟩ = (#[(Value.string ⟨((u1).scheme).toArray⟩), (Value.string ⟨(((u1).host).name).toArray⟩), (Value.bool ((u1).host).v4), (Value.int .u32 (((u1).host).addr : Int)), (Value.int .i64 (u1).port), (Value.string ⟨((u1).path).toArray⟩), (Value.bool (u1).hasQuery), (Value.string ⟨((u1).query).toArray⟩), (Value.string ⟨((u1).rest).toArray⟩)] : Array Value)[n0]?) ∧ (∀ n0, W.cell? ⟨gD, n0, none⟩ = (#[(Value.string ⟨((u2).scheme).toArray⟩), (Value.string ⟨(((u2).host).name).toArray⟩), (Value.bool ((u2).host).v4), (Value.int .u32 (((u2).host).addr : Int)), (Value.int .i64 (u2).port), (Value.string ⟨((u2).path).toArray⟩), (Value.bool (u2).hasQuery), (Value.string ⟨((u2).query).toArray⟩), (Value.string ⟨((u2).rest).toArray⟩)] : Array Value)[n0]?) ∧ (∀ n0, W.cell? ⟨gH, n0, none⟩ = (#[.string ⟨#[99, 114, 111, 115, 115, 45, 111, 114, 105, 103, 105, 110, 45, 114, 101, 115, 111, 117, 114, 99, 101, 45, 112, 111, 108, 105, 99, 121]⟩, .string ⟨#[115, 97, 109, 101, 45, 115, 105, 116, 101]⟩] : Array Value)[n0]?) ∧ (∀ n0, W.cell? ⟨gG, n0, none⟩ = (#[.string ⟨#[99, 114, 111, 115, 115, 45, 111, 114, 105, 103, 105, 110, 45, 114, 101, 115, 111, 117, 114, 99, 101, 45, 112, 111, 108, 105, 99, 121]⟩, .string ⟨#[115, 97, 109, 101, 45, 111, 114, 105, 103, 105, 110]⟩] : Array Value)[n0]?)) ((refine ⟨bw_, by first | omega | (simp; omega), by first | omega | (simp; omega), by first | omega | (simp; omega), by first | omega | (simp; omega), by first | omega | (simp; omega), by exact Blk.cell (t := 28) (bk_), by exact Blk.cell (t := 28) (bk_), by exact Blk.cell (t := 39) (bk_), by exact Blk.cell (t := 39) (bk_)⟩)) (first | ((first | (go_at_call 15; refine (hof2.out _ (bw_)).mono ?_) | (go_at_call 21; refine (hB.out _ _ (bw_) sz_ (cells14 (bk_))).mono ?_)); rintro e w1 ⟨rfl, hb⟩; obtain ⟨hc, hfz⟩ := bcell hb; have hz := hb.size; (try simp at hz); (try have hz0 := lt_ hb w.heap.size); (try have hz1 := lt_ hb (w.heap.size + 1)); (try have hz2 := lt_ hb (w.heap.size + 2)); (try have hz3 := lt_ hb (w.heap.size + 3)); (try have hcA := fun o => hc w.heap.size o sz_); (try have hcB := fun o => hc (w.heap.size + 1) o sz_); (try (have i := cf_ hb g; obtain ⟨hcGg, hfGg, hzGg⟩ := i)); (try (have i := cf_ hb gC; obtain ⟨hcGgC, hfGgC, hzGgC⟩ := i)); (try (have i := cf_ hb gD; obtain ⟨hcGgD, hfGgD, hzGgD⟩ := i))))
    all_goals go_wp2_with fail
    all_goals go_meet
    all_goals exact ⟨rfl, bw_, bk_, bk_, bk_, bk_⟩
  case rest =>
  clear hw0 hwz hUl hUc hUf hVl hVc hVf hHl hHc hHf hGl hGc hGf hBU hBV hBH hBG
  obtain ⟨rfl, hw0, hBU, hBV, hBH, hBG⟩ := hcut
  have hwz := hw0.size
  have hUl := hBU.lt
  have hUc := hBU.cell
  have hUf := hBU.frozen
  have hVl := hBV.lt
  have hVc := hBV.cell
  have hVf := hBV.frozen
  have hHl := hBH.lt
  have hHc := hBH.cell
  have hHf := hBH.frozen
  have hGl := hBG.lt
  have hGc := hBG.cell
  have hGf := hBG.frozen
  go_upto_region 13 with fail
  go_cut [21] from 23 (fun x21 w' => x21 = .bool rc ∧ Below w.heap.size w w' ∧ Blk w' (gC) 28 #[(Value.string ⟨((u1).scheme).toArray⟩), (Value.string ⟨(((u1).host).name).toArray⟩), (Value.bool ((u1).host).v4), (Value.int .u32 (((u1).host).addr : Int)), (Value.int .i64 (u1).port), (Value.string ⟨((u1).path).toArray⟩), (Value.bool (u1).hasQuery), (Value.string ⟨((u1).query).toArray⟩), (Value.string ⟨((u1).rest).toArray⟩)] ∧ Blk w' (gD) 28 #[(Value.string ⟨((u2).scheme).toArray⟩), (Value.string ⟨(((u2).host).name).toArray⟩), (Value.bool ((u2).host).v4), (Value.int .u32 (((u2).host).addr : Int)), (Value.int .i64 (u2).port), (Value.string ⟨((u2).path).toArray⟩), (Value.bool (u2).hasQuery), (Value.string ⟨((u2).query).toArray⟩), (Value.string ⟨((u2).rest).toArray⟩)] ∧ Blk w' (gH) 39 #[.string ⟨#[99, 114, 111, 115, 115, 45, 111, 114, 105, 103, 105, 110, 45, 114, 101, 115, 111, 117, 114, 99, 101, 45, 112, 111, 108, 105, 99, 121]⟩, .string ⟨#[115, 97, 109, 101, 45, 115, 105, 116, 101]⟩] ∧ Blk w' (gG) 39 #[.string ⟨#[99, 114, 111, 115, 115, 45, 111, 114, 105, 103, 105, 110, 45, 114, 101, 115, 111, 117, 114, 99, 101, 45, 112, 111, 108, 105, 99, 121]⟩, .string ⟨#[115, 97, 109, 101, 45, 111, 114, 105, 103, 105, 110]⟩])
  case first =>
    go_region_held3 (fun W => Below w.heap.size w W ∧ w.heap.size ≤ W.heap.size ∧ gC < W.heap.size ∧ gD < W.heap.size ∧ gH < W.heap.size ∧ gG < W.heap.size ∧ (∀ n0, W.cell? ⟨gC, n0, none⟩ = (#[(Value.string ⟨((u1).scheme).toArray⟩), (Value.string ⟨(((u1).host).name).toArray⟩), (Value.bool ((u1).host).v4), (Value.int .u32 (((u1).host).addr : Int)), (Value.int .i64 (u1).port), (Value.string ⟨((u1).path).toArray⟩), (Value.bool (u1).hasQuery), (Value.string ⟨((u1).query).toArray⟩), (Value.string ⟨((u1).rest).toArray⟩)] : Array Value)[n0]?) ∧ (∀ n0, W.cell? ⟨gD, n0, none⟩ = (#[(Value.string ⟨((u2).scheme).toArray⟩), (Value.string ⟨(((u2).host).name).toArray⟩), (Value.bool ((u2).host).v4), (Value.int .u32 (((u2).host).addr : Int)), (Value.int .i64 (u2).port), (Value.string ⟨((u2).path).toArray⟩), (Value.bool (u2).hasQuery), (Value.string ⟨((u2).query).toArray⟩), (Value.string ⟨((u2).rest).toArray⟩)] : Array Value)[n0]?) ∧ (∀ n0, W.cell? ⟨gH, n0, none⟩ = (#[.string ⟨#[99, 114, 111, 115, 115, 45, 111, 114, 105, 103, 105, 110, 45, 114, 101, 115, 111, 117, 114, 99, 101, 45, 112, 111, 108, 105, 99, 121]⟩, .string ⟨#[115, 97, 109, 101, 45, 115, 105, 116, 101]⟩] : Array Value)[n0]?) ∧ (∀ n0, W.cell? ⟨gG, n0, none⟩ = (#[.string ⟨#[99, 114, 111, 115, 115, 45, 111, 114, 105, 103, 105, 110, 45, 114, 101, 115, 111, 117, 114, 99, 101, 45, 112, 111, 108, 105, 99, 121]⟩, .string ⟨#[115, 97, 109, 101, 45, 111, 114, 105, 103, 105, 110]⟩] : Array Value)[n0]?)) ((refine ⟨bw_, by first | omega | (simp; omega), by first | omega | (simp; omega), by first | omega | (simp; omega), by first | omega | (simp; omega), by first | omega | (simp; omega), by exact Blk.cell (t := 28) (bk_), by exact Blk.cell (t := 28) (bk_), by exact Blk.cell (t := 39) (bk_), by exact Blk.cell (t := 39) (bk_)⟩)) (first | ((first | (go_at_call 15; refine (hof1.out _ (bw_)).mono ?_) | (go_at_call 21; refine (hC.out _ _ (bw_) sz_ (cells14 (bk_))).mono ?_)); rintro e w1 ⟨rfl, hb⟩; obtain ⟨hc, hfz⟩ := bcell hb; have hz := hb.size; (try simp at hz); (try have hz0 := lt_ hb w.heap.size); (try have hz1 := lt_ hb (w.heap.size + 1)); (try have hz2 := lt_ hb (w.heap.size + 2)); (try have hz3 := lt_ hb (w.heap.size + 3)); (try have hcA := fun o => hc w.heap.size o sz_); (try have hcB := fun o => hc (w.heap.size + 1) o sz_); (try (have i := cf_ hb g; obtain ⟨hcGg, hfGg, hzGg⟩ := i)); (try (have i := cf_ hb gC; obtain ⟨hcGgC, hfGgC, hzGgC⟩ := i)); (try (have i := cf_ hb gD; obtain ⟨hcGgD, hfGgD, hzGgD⟩ := i))))
    all_goals go_wp2_with fail
    all_goals go_meet
    all_goals exact ⟨rfl, bw_, bk_, bk_, bk_, bk_⟩
  case rest =>
  clear hw0 hwz hUl hUc hUf hVl hVc hVf hHl hHc hHf hGl hGc hGf hBU hBV hBH hBG
  obtain ⟨rfl, hw0, hBU, hBV, hBH, hBG⟩ := hcut
  have hwz := hw0.size
  have hUl := hBU.lt
  have hUc := hBU.cell
  have hUf := hBU.frozen
  have hVl := hBV.lt
  have hVc := hBV.cell
  have hVf := hBV.frozen
  have hHl := hBH.lt
  have hHc := hBH.cell
  have hHf := hBH.frozen
  have hGl := hBG.lt
  have hGc := hBG.cell
  have hGf := hBG.frozen
  clear hA hB hC hof1 hof2
  go_upto_region 14 with fail
  go_cut [22] from 23 (fun x22 w' => x22 = .bool es ∧ Below w.heap.size w w' ∧ Blk w' (gC) 28 #[(Value.string ⟨((u1).scheme).toArray⟩), (Value.string ⟨(((u1).host).name).toArray⟩), (Value.bool ((u1).host).v4), (Value.int .u32 (((u1).host).addr : Int)), (Value.int .i64 (u1).port), (Value.string ⟨((u1).path).toArray⟩), (Value.bool (u1).hasQuery), (Value.string ⟨((u1).query).toArray⟩), (Value.string ⟨((u1).rest).toArray⟩)] ∧ Blk w' (gD) 28 #[(Value.string ⟨((u2).scheme).toArray⟩), (Value.string ⟨(((u2).host).name).toArray⟩), (Value.bool ((u2).host).v4), (Value.int .u32 (((u2).host).addr : Int)), (Value.int .i64 (u2).port), (Value.string ⟨((u2).path).toArray⟩), (Value.bool (u2).hasQuery), (Value.string ⟨((u2).query).toArray⟩), (Value.string ⟨((u2).rest).toArray⟩)] ∧ Blk w' (gH) 39 #[.string ⟨#[99, 114, 111, 115, 115, 45, 111, 114, 105, 103, 105, 110, 45, 114, 101, 115, 111, 117, 114, 99, 101, 45, 112, 111, 108, 105, 99, 121]⟩, .string ⟨#[115, 97, 109, 101, 45, 115, 105, 116, 101]⟩] ∧ Blk w' (gG) 39 #[.string ⟨#[99, 114, 111, 115, 115, 45, 111, 114, 105, 103, 105, 110, 45, 114, 101, 115, 111, 117, 114, 99, 101, 45, 112, 111, 108, 105, 99, 121]⟩, .string ⟨#[115, 97, 109, 101, 45, 111, 114, 105, 103, 105, 110]⟩])
  case first =>
    have hes2 := hes.out
    go_wp2_with fail
    go_meet
    case rel => exact ⟨rfl, bw_, bk_, bk_, bk_, bk_⟩
  case rest =>
  clear hw0 hwz hUl hUc hUf hVl hVc hVf hHl hHc hHf hGl hGc hGf hBU hBV hBH hBG
  obtain ⟨rfl, hw0, hBU, hBV, hBH, hBG⟩ := hcut
  have hwz := hw0.size
  have hUl := hBU.lt
  have hUc := hBU.cell
  have hUf := hBU.frozen
  have hVl := hBV.lt
  have hVc := hBV.cell
  have hVf := hBV.frozen
  have hHl := hBH.lt
  have hHc := hBH.cell
  have hHf := hBH.frozen
  have hGl := hBG.lt
  have hGc := hBG.cell
  have hGf := hBG.frozen
  have hea2 := hea.out
  clear hes
  cases es <;> cases ra <;> cases rb <;> cases rc <;> cases ea
  all_goals first
    | (exfalso; have := hcases.out; simp at this; done)
    | (go_wp2_with fail
       go_ret
       exact ⟨rfl, bw_⟩)
end Go.Proofs.YtbafofldgkigmaaGreatDoor
