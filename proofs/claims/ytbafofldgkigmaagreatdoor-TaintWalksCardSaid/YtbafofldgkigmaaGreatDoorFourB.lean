/- Texts of origins: of the program and of the reference. origin.Of. glacislaw04: Small, of. -/
import Derived.Test.YtbafofldgkigmaaGreatDoorFour
import Derived.Test.YtbafofldgkigmaaGreatDoorText
import Derived.Test.YtbafofldgkigmaaGreatDoorCalls3
import Derived.Deep.RegionHeld3
namespace Go.Proofs.YtbafofldgkigmaaGreatDoor
open Go.RowKit
attribute [local irreducible] Calls

theorem int_beq (a b : Int) : (a == b) = (b == a) := by
  rw [Bool.eq_iff_iff, beq_iff_eq, beq_iff_eq]
  exact ⟨Eq.symm, Eq.symm⟩
theorem own_cases (o : Gl.Origin) : Gl.ownPort o = (hasOwn o.scheme && (ownOf o.scheme == o.port)) := by
  unfold Gl.ownPort hasOwn ownOf
  generalize o.port = p
  generalize o.scheme = s
  have e1 : (Gl.http == Gl.https) = false := by decide
  have e2 : (Gl.https == Gl.http) = false := by decide
  have e3 : ¬ Gl.https = Gl.http := by decide
  by_cases h1 : s = Gl.http
  · rw [h1, e1, beq_self_eq_true, if_pos rfl, int_beq p 80, Bool.false_and, Bool.or_false, Bool.or_false]
  · have b1 : (s == Gl.http) = false := by rw [beq_eq_false_iff_ne]; exact h1
    rw [b1, if_neg h1, Bool.false_and, Bool.false_or, Bool.false_or]
    by_cases h2 : s = Gl.https
    · rw [h2, beq_self_eq_true, if_pos rfl, int_beq p 443]
    · have b2 : (s == Gl.https) = false := by rw [beq_eq_false_iff_ne]; exact h2
      rw [b2, Bool.false_and, Bool.false_and]
structure OWide (o : Gl.Origin) : Prop where
  fits : OFits o
  scheme : o.scheme.length ≤ 4611686018427387904
  port : -9223372036854775808 ≤ o.port ∧ o.port ≤ 9223372036854775807

set_option maxHeartbeats 4000000 in
set_option maxRecDepth 100000 in
theorem origin_text (o : Gl.Origin) (w : World) (hE : Env w) (ho : OWide o) : Calls Tryz.prog 63 #[(Value.agg #[(Value.bool (o).opaq), (Value.int .i64 (o).id), (Value.string ⟨((o).scheme).toArray⟩), (Value.string ⟨(((o).host).name).toArray⟩), (Value.bool ((o).host).v4), (Value.int .u32 (((o).host).addr : Int)), (Value.int .i64 (o).port)])] w (Ret w ((Value.string ⟨(Gl.originText o).toArray⟩))) := by
  have hR : Gl.originText o = if o.opaq then Gl.nullT else o.scheme ++ [58, 47, 47] ++ Gl.hostText o.host ++ (if Gl.ownPort o then [] else [58] ++ Lib.itoa o.port) := rfl
  rw [own_cases] at hR
  generalize Gl.originText o = R at *
  obtain ⟨⟨ha, hn⟩, hs, hp1, hp2⟩ := ho
  obtain ⟨q, i, s, h, p⟩ := o
  simp only at hR ha hn hs hp1 hp2 ⊢
  cases q
  · have hht := fun (W : World) (hW : Below w.heap.size w W) => host_text h W (hE.below hW) ha
    have hhl := hostText_len h ha
    have hil := Lib.itoa_length_le p (by omega) hp2
    have hit := fun (W : World) (hW : Below w.heap.size w W) => itoa_any p (by omega) hp2 W (hE.below hW)
    generalize Gl.hostText h = hx at *
    generalize Lib.itoa p = it at *
    generalize hpo : ownOf s = po at *
    generalize hkn : hasOwn s = kn at *
    simp only [Bool.false_eq_true, if_false] at hR
    replace hpo := Lib.hid hpo
    replace hkn := Lib.hid hkn
    replace hht := Lib.hid hht
    replace hit := Lib.hid hit
    replace hR := Lib.hid hR
    go_enter Tryz.func63, Tryz.ntmps63
    go_upto_region 3 with fail
    go_cut [3] from 6 (fun x w' => x = (Value.string ⟨(s ++ 58 :: 47 :: 47 :: hx).toArray⟩) ∧ Below w.heap.size w w' ∧ Blk w' w.heap.size 35 #[(.bool false), (.int .i64 i), (Value.string ⟨(s).toArray⟩), (Value.string ⟨((h).name).toArray⟩), (Value.bool (h).v4), (Value.int .u32 ((h).addr : Int)), (.int .i64 p)])
    case first =>
      go_wp2_with (go_at_call 93; refine (hht.out _ (bw_)).mono ?_; rintro e w1 ⟨rfl, hb⟩; obtain ⟨hc, hfz⟩ := bcell hb; have hz := hb.size; (try simp at hz); (try have hz0 := lt_ hb w.heap.size); (try have hz1 := lt_ hb (w.heap.size + 1)); (try have hz2 := lt_ hb (w.heap.size + 2)); (try have hz3 := lt_ hb (w.heap.size + 3)); (try have hcA := fun o => hc w.heap.size o sz_); (try have hcB := fun o => hc (w.heap.size + 1) o sz_))
      go_region_with (go_at_call 93; refine (hht.out _ (bw_)).mono ?_; rintro e w1 ⟨rfl, hb⟩; obtain ⟨hc, hfz⟩ := bcell hb; have hz := hb.size; (try simp at hz); (try have hz0 := lt_ hb w.heap.size); (try have hz1 := lt_ hb (w.heap.size + 1)); (try have hz2 := lt_ hb (w.heap.size + 2)); (try have hz3 := lt_ hb (w.heap.size + 3)); (try have hcA := fun o => hc w.heap.size o sz_); (try have hcB := fun o => hc (w.heap.size + 1) o sz_))
      all_goals (go_wp2_with fail)
      all_goals go_meet
      all_goals exact ⟨by simp, bw_, bk_⟩
    case rest =>
      obtain ⟨rfl, hw, hB1⟩ := hcut
      have hs0 := hB1.lt
      have hc1 := hB1.cell
      have hz1 := hB1.frozen
      have hfl : (s ++ 58 :: 47 :: 47 :: hx).length ≤ 4611686018429000000 := by simp; omega
      generalize hfx : s ++ 58 :: 47 :: 47 :: hx = fx at *
      replace hfx := Lib.hid hfx
      go_upto_region 4 with fail
      go_cut [4, 5] from 6 (fun x y w' => x = .int .i64 po ∧ y = .bool kn ∧ Below w.heap.size w w' ∧ Blk w' w.heap.size 35 #[(.bool false), (.int .i64 i), (Value.string ⟨(s).toArray⟩), (Value.string ⟨((h).name).toArray⟩), (Value.bool (h).v4), (Value.int .u32 ((h).addr : Int)), (.int .i64 p)])
      case first =>
        go_wp2_with (go_at_call 48; refine (origin_own_at _).mono ?_; rintro e w1 ⟨⟨rfl, hb⟩, hm⟩; have hlook := look_own s w1 _ hm; rw [hpo.out, hkn.out] at hlook; (try simp at hlook); obtain ⟨hc, hfz⟩ := bcell hb; have hz := hb.size; (try simp at hz); (try have hcA := fun o => hc w.heap.size o sz_); (try have hz0 : w.heap.size < w1.heap.size := by omega))
        go_region_with (go_at_call 48; refine (origin_own_at _).mono ?_; rintro e w1 ⟨⟨rfl, hb⟩, hm⟩; have hlook := look_own s w1 _ hm; rw [hpo.out, hkn.out] at hlook; (try simp at hlook); obtain ⟨hc, hfz⟩ := bcell hb; have hz := hb.size; (try simp at hz); (try have hcA := fun o => hc w.heap.size o sz_); (try have hz0 : w.heap.size < w1.heap.size := by omega))
        all_goals (go_wp2_with fail)
        all_goals go_meet
        all_goals exact ⟨rfl, rfl, bw_, bk_⟩
      case rest =>
        clear hw hB1 hs0 hc1 hz1
        obtain ⟨rfl, rfl, hw, hB1⟩ := hcut
        have hs0 := hB1.lt
        have hc1 := hB1.cell
        have hz1 := hB1.frozen
        cases hk : kn with
        | false =>
          have hf : Hid (R = fx ++ 58 :: it) := Lib.hid (by rw [hR.out, hk, ← hfx.out]; simp)
          subst hk
          go_wp2_with (go_at_call 94; refine (hit.out _ (bw_)).mono ?_; rintro e w1 ⟨rfl, hb⟩; obtain ⟨hc, hfz⟩ := bcell hb; have hz := hb.size; (try simp at hz); (try have hz0 := lt_ hb w.heap.size); (try have hz1 := lt_ hb (w.heap.size + 1)); (try have hz2 := lt_ hb (w.heap.size + 2)); (try have hz3 := lt_ hb (w.heap.size + 3)); (try have hcA := fun o => hc w.heap.size o sz_); (try have hcB := fun o => hc (w.heap.size + 1) o sz_))
          go_ret
          exact ⟨by rw [hf.out]; simp, bw_⟩
        | true =>
          subst hk
          cases hpp : (po == p) with
          | true =>
            have hf : Hid (R = fx) := Lib.hid (by rw [hR.out, hpp, ← hfx.out]; simp)
            go_wp2_with fail
            go_ret
            exact ⟨by rw [hf.out] <;> rfl, bw_⟩
          | false =>
            have hf : Hid (R = fx ++ 58 :: it) := Lib.hid (by rw [hR.out, hpp, ← hfx.out]; simp)
            go_wp2_with (go_at_call 94; refine (hit.out _ (bw_)).mono ?_; rintro e w1 ⟨rfl, hb⟩; obtain ⟨hc, hfz⟩ := bcell hb; have hz := hb.size; (try simp at hz); (try have hz0 := lt_ hb w.heap.size); (try have hz1 := lt_ hb (w.heap.size + 1)); (try have hz2 := lt_ hb (w.heap.size + 2)); (try have hz3 := lt_ hb (w.heap.size + 3)); (try have hcA := fun o => hc w.heap.size o sz_); (try have hcB := fun o => hc (w.heap.size + 1) o sz_))
            go_ret
            exact ⟨by rw [hf.out]; simp, bw_⟩
  · have hf : Hid (R = [110, 117, 108, 108]) := Lib.hid (by rw [hR]; rfl)
    clear hR
    go_enter Tryz.func63, Tryz.ntmps63
    go_wp2
    go_ret
    exact ⟨by rw [hf.out] <;> rfl, bw_⟩
set_option maxHeartbeats 4000000 in
set_option maxRecDepth 100000 in
theorem ref4_text (o : Gl.Origin) (w : World) (hE : Env w) (ho : OWide o) : Calls Tryz.prog 68 #[(Value.agg #[(Value.bool (o).opaq), (Value.int .i64 (o).id), (Value.string ⟨((o).scheme).toArray⟩), (Value.string ⟨(((o).host).name).toArray⟩), (Value.bool ((o).host).v4), (Value.int .u32 (((o).host).addr : Int)), (Value.int .i64 (o).port)])] w (Ret w ((Value.string ⟨(Gl.originText o).toArray⟩))) := by
  have hR : Gl.originText o = if o.opaq then Gl.nullT else o.scheme ++ [58, 47, 47] ++ Gl.hostText o.host ++ (if Gl.ownPort o then [] else [58] ++ Lib.itoa o.port) := rfl
  have hkn : ((o.scheme == [104, 116, 116, 112] && o.port == 80) || (o.scheme == [104, 116, 116, 112, 115] && o.port == 443)) = Gl.ownPort o := rfl
  generalize Gl.originText o = R at *
  generalize Gl.ownPort o = kn at *
  obtain ⟨⟨ha, hn⟩, hs, hp1, hp2⟩ := ho
  obtain ⟨q, i, s, h, p⟩ := o
  simp only at hR hkn ha hn hs hp1 hp2 ⊢
  cases q
  · have hht := fun (W : World) (hW : Below w.heap.size w W) => ref2_text h W (hE.below hW) ha
    have hhl := hostText_len h ha
    have hil := Lib.itoa_length_le p (by omega) hp2
    have hit := fun (W : World) (hW : Below w.heap.size w W) => itoa_any p (by omega) hp2 W (hE.below hW)
    generalize Gl.hostText h = hx at *
    generalize Lib.itoa p = it at *
    simp only [Bool.false_eq_true, if_false] at hR
    replace hkn := Lib.hid hkn
    replace hht := Lib.hid hht
    replace hit := Lib.hid hit
    replace hR := Lib.hid hR
    go_enter Tryz.func68, Tryz.ntmps68
    go_upto_region 3 with fail
    go_cut [3] from 5 (fun x w' => x = (Value.string ⟨(s ++ 58 :: 47 :: 47 :: hx).toArray⟩) ∧ Below w.heap.size w w' ∧ Blk w' w.heap.size 35 #[(.bool false), (.int .i64 i), (Value.string ⟨(s).toArray⟩), (Value.string ⟨((h).name).toArray⟩), (Value.bool (h).v4), (Value.int .u32 ((h).addr : Int)), (.int .i64 p)])
    case first =>
      go_wp2_with (go_at_call 95; refine (hht.out _ (bw_)).mono ?_; rintro e w1 ⟨rfl, hb⟩; obtain ⟨hc, hfz⟩ := bcell hb; have hz := hb.size; (try simp at hz); (try have hz0 := lt_ hb w.heap.size); (try have hz1 := lt_ hb (w.heap.size + 1)); (try have hz2 := lt_ hb (w.heap.size + 2)); (try have hz3 := lt_ hb (w.heap.size + 3)); (try have hcA := fun o => hc w.heap.size o sz_); (try have hcB := fun o => hc (w.heap.size + 1) o sz_))
      go_region_with (go_at_call 95; refine (hht.out _ (bw_)).mono ?_; rintro e w1 ⟨rfl, hb⟩; obtain ⟨hc, hfz⟩ := bcell hb; have hz := hb.size; (try simp at hz); (try have hz0 := lt_ hb w.heap.size); (try have hz1 := lt_ hb (w.heap.size + 1)); (try have hz2 := lt_ hb (w.heap.size + 2)); (try have hz3 := lt_ hb (w.heap.size + 3)); (try have hcA := fun o => hc w.heap.size o sz_); (try have hcB := fun o => hc (w.heap.size + 1) o sz_))
      all_goals (go_wp2_with fail)
      all_goals go_meet
      all_goals exact ⟨by simp, bw_, bk_⟩
    case rest =>
      obtain ⟨rfl, hw, hB1⟩ := hcut
      have hs0 := hB1.lt
      have hc1 := hB1.cell
      have hz1 := hB1.frozen
      have hfl : (s ++ 58 :: 47 :: 47 :: hx).length ≤ 4611686018429000000 := by simp; omega
      generalize hfx : s ++ 58 :: 47 :: 47 :: hx = fx at *
      replace hfx := Lib.hid hfx
      go_upto_region 4 with fail
      go_cut [4] from 5 (fun y w' => y = .bool kn ∧ Below w.heap.size w w' ∧ Blk w' w.heap.size 35 #[(.bool false), (.int .i64 i), (Value.string ⟨(s).toArray⟩), (Value.string ⟨((h).name).toArray⟩), (Value.bool (h).v4), (Value.int .u32 ((h).addr : Int)), (.int .i64 p)])
      case first =>
        cases h1 : (s == ([104, 116, 116, 112] : List UInt8)) <;> cases h2 : (p == 80) <;> cases h3 : (s == ([104, 116, 116, 112, 115] : List UInt8)) <;> cases h4 : (p == 443)
        all_goals
          have hf : Hid (kn = _) := Lib.hid (by rw [← hkn.out, h1, h2, h3, h4])
          go_wp2_with fail
          go_meet
          exact ⟨by rw [hf.out] <;> rfl, bw_, bk_⟩
      case rest =>
        clear hw hB1 hs0 hc1 hz1
        obtain ⟨rfl, hw, hB1⟩ := hcut
        have hs0 := hB1.lt
        have hc1 := hB1.cell
        have hz1 := hB1.frozen
        cases hk : kn with
        | true =>
          have hf : Hid (R = fx) := Lib.hid (by rw [hR.out, hk, ← hfx.out]; simp)
          subst hk
          go_wp2_with fail
          go_ret
          exact ⟨by rw [hf.out] <;> rfl, bw_⟩
        | false =>
          have hf : Hid (R = fx ++ 58 :: it) := Lib.hid (by rw [hR.out, hk, ← hfx.out]; simp)
          subst hk
          go_wp2_with (go_at_call 94; refine (hit.out _ (bw_)).mono ?_; rintro e w1 ⟨rfl, hb⟩; obtain ⟨hc, hfz⟩ := bcell hb; have hz := hb.size; (try simp at hz); (try have hz0 := lt_ hb w.heap.size); (try have hz1 := lt_ hb (w.heap.size + 1)); (try have hz2 := lt_ hb (w.heap.size + 2)); (try have hz3 := lt_ hb (w.heap.size + 3)); (try have hcA := fun o => hc w.heap.size o sz_); (try have hcB := fun o => hc (w.heap.size + 1) o sz_))
          go_ret
          exact ⟨by rw [hf.out]; simp, bw_⟩
  · have hf : Hid (R = [110, 117, 108, 108]) := Lib.hid (by rw [hR]; rfl)
    clear hR
    go_enter Tryz.func68, Tryz.ntmps68
    go_wp2
    go_ret
    exact ⟨by rw [hf.out] <;> rfl, bw_⟩
end Go.Proofs.YtbafofldgkigmaaGreatDoor
namespace Go.Proofs.YtbafofldgkigmaaGreatDoor
open Go.RowKit
attribute [local irreducible] Calls
theorem own_net (s : Gl.Bs) (h : (s == Gl.http || s == Gl.https) = true) : ownOf s = Gl.own s := by
  unfold ownOf Gl.own
  rw [Bool.or_eq_true, beq_iff_eq, beq_iff_eq] at h
  rcases h with rfl | rfl <;> decide
set_option maxHeartbeats 4000000 in
set_option maxRecDepth 100000 in
/-- What origin.Of does with the URL at hand, v, which lies in the block of its first parameter. -/
theorem origin_of (u : Gl.URL) (id : Int) (w : World) (hE : Env w) (hs : u.rest.length ≤ 4294967280) :
    Calls Tryz.prog 15 #[(Value.agg #[(Value.string ⟨((u).scheme).toArray⟩), (Value.string ⟨(((u).host).name).toArray⟩), (Value.bool ((u).host).v4), (Value.int .u32 (((u).host).addr : Int)), (Value.int .i64 (u).port), (Value.string ⟨((u).path).toArray⟩), (Value.bool (u).hasQuery), (Value.string ⟨((u).query).toArray⟩), (Value.string ⟨((u).rest).toArray⟩)]), .int .i64 id] w (Ret w ((Value.agg #[(Value.bool (Gl.originOf u id).opaq), (Value.int .i64 (Gl.originOf u id).id), (Value.string ⟨((Gl.originOf u id).scheme).toArray⟩), (Value.string ⟨(((Gl.originOf u id).host).name).toArray⟩), (Value.bool ((Gl.originOf u id).host).v4), (Value.int .u32 (((Gl.originOf u id).host).addr : Int)), (Value.int .i64 (Gl.originOf u id).port)]))) := by
  have hR : Gl.originOf u id = Gl.origOf (if (Gl.innerOf u).2 then (Gl.innerOf u).1 else u) id := rfl
  have hin := fun W (hW : Below w.heap.size w W) => urlp_inner u W hs (hE.below hW)
  generalize Gl.originOf u id = R at *
  generalize Gl.innerOf u = p at *
  obtain ⟨x, b⟩ := p
  simp only at hR hin
  replace hin := Lib.hid hin
  obtain ⟨v, hv⟩ : ∃ v, (if b = true then x else u) = v := ⟨_, rfl⟩
  rw [hv] at hR
  go_enter Tryz.func15, Tryz.ntmps15
  go_upto_region 1 with fail
  generalize hW0 : ((w.alloc (Obj.cells #[(Value.string ⟨((u).scheme).toArray⟩), (Value.string ⟨(((u).host).name).toArray⟩), (Value.bool ((u).host).v4), (Value.int .u32 (((u).host).addr : Int)), (Value.int .i64 (u).port), (Value.string ⟨((u).path).toArray⟩), (Value.bool (u).hasQuery), (Value.string ⟨((u).query).toArray⟩), (Value.string ⟨((u).rest).toArray⟩)] 28)).alloc (Obj.cells #[(.bool false), (.int .i64 0), (.string ⟨#[]⟩), (.string ⟨#[]⟩), (.bool false), (.int .u32 0), (.int .i64 0)] 35)) = W0
  have hw0 : Below w.heap.size w W0 := by rw [← hW0]; (exact bw_)
  have hBU : Blk W0 (w.heap.size) 28 #[(Value.string ⟨((u).scheme).toArray⟩), (Value.string ⟨(((u).host).name).toArray⟩), (Value.bool ((u).host).v4), (Value.int .u32 (((u).host).addr : Int)), (Value.int .i64 (u).port), (Value.string ⟨((u).path).toArray⟩), (Value.bool (u).hasQuery), (Value.string ⟨((u).query).toArray⟩), (Value.string ⟨((u).rest).toArray⟩)] := by rw [← hW0]; exact (Blk.alloc (Blk.new _ _ _) _)
  have hBZ : Blk W0 (w.heap.size + 1) 35 #[(.bool false), (.int .i64 0), (.string ⟨#[]⟩), (.string ⟨#[]⟩), (.bool false), (.int .u32 0), (.int .i64 0)] := by rw [← hW0]; exact (by have := Blk.new (w.alloc (Obj.cells #[(Value.string ⟨((u).scheme).toArray⟩), (Value.string ⟨(((u).host).name).toArray⟩), (Value.bool ((u).host).v4), (Value.int .u32 (((u).host).addr : Int)), (Value.int .i64 (u).port), (Value.string ⟨((u).path).toArray⟩), (Value.bool (u).hasQuery), (Value.string ⟨((u).query).toArray⟩), (Value.string ⟨((u).rest).toArray⟩)] 28)) 35 #[(.bool false), (.int .i64 0), (.string ⟨#[]⟩), (.string ⟨#[]⟩), (.bool false), (.int .u32 0), (.int .i64 0)]; simpa [World.size_alloc] using this)
  have hUl := hBU.lt
  have hUc := hBU.cell
  have hUf := hBU.frozen
  have hZl := hBZ.lt
  have hZc := hBZ.cell
  have hZf := hBZ.frozen
  clear hW0
  go_cut [5, 6] from 8 (fun p y w' => ∃ g, p = .pointer (some ⟨g, 0, none⟩) ∧ y = .bool b ∧ w.heap.size + 2 ≤ g ∧ Below w.heap.size w w' ∧ Blk w' w.heap.size 28 #[(Value.string ⟨((u).scheme).toArray⟩), (Value.string ⟨(((u).host).name).toArray⟩), (Value.bool ((u).host).v4), (Value.int .u32 (((u).host).addr : Int)), (Value.int .i64 (u).port), (Value.string ⟨((u).path).toArray⟩), (Value.bool (u).hasQuery), (Value.string ⟨((u).query).toArray⟩), (Value.string ⟨((u).rest).toArray⟩)] ∧ Blk w' (w.heap.size + 1) 35 #[(.bool false), (.int .i64 0), (.string ⟨#[]⟩), (.string ⟨#[]⟩), (.bool false), (.int .u32 0), (.int .i64 0)] ∧ Blk w' g 28 #[(Value.string ⟨((x).scheme).toArray⟩), (Value.string ⟨(((x).host).name).toArray⟩), (Value.bool ((x).host).v4), (Value.int .u32 (((x).host).addr : Int)), (Value.int .i64 (x).port), (Value.string ⟨((x).path).toArray⟩), (Value.bool (x).hasQuery), (Value.string ⟨((x).query).toArray⟩), (Value.string ⟨((x).rest).toArray⟩)])
  case first =>
    go_wp2_with (go_at_call 47; refine (hin.out _ (bw_)).mono ?_; rintro e w1 ⟨rfl, hb⟩; obtain ⟨hc, hfz⟩ := bcell hb; have hz := hb.size; (try simp at hz); (try have hz0 := lt_ hb w.heap.size); (try have hz1 := lt_ hb (w.heap.size + 1)); (try have hz2 := lt_ hb (w.heap.size + 2)); (try have hz3 := lt_ hb (w.heap.size + 3)); (try have hcA := fun o => hc w.heap.size o sz_); (try have hcB := fun o => hc (w.heap.size + 1) o sz_); (try (have i := cf_ hb g; obtain ⟨hcGg, hfGg, hzGg⟩ := i)); (try (have i := cf_ hb gB; obtain ⟨hcGgB, hfGgB, hzGgB⟩ := i)))
    go_meet
    case rel => exact ⟨_, rfl, rfl, by first | omega | (simp; omega), bw_, bk_, bk_, bk_⟩
  case rest =>
    clear hBU hUl hUc hUf hBZ hZl hZc hZf hw0
    obtain ⟨g, rfl, rfl, hg, hw, hBU, hBZ, hBX⟩ := hcut
    have hUl := hBU.lt
    have hUc := hBU.cell
    have hUf := hBU.frozen
    have hXc := hBX.cell
    go_upto_if 13 with fail
    go_cut [6] from 8 (fun y w' => y = .bool b ∧ Below w.heap.size w w' ∧ Blk w' w.heap.size 28 #[(Value.string ⟨((v).scheme).toArray⟩), (Value.string ⟨(((v).host).name).toArray⟩), (Value.bool ((v).host).v4), (Value.int .u32 (((v).host).addr : Int)), (Value.int .i64 (v).port), (Value.string ⟨((v).path).toArray⟩), (Value.bool (v).hasQuery), (Value.string ⟨((v).query).toArray⟩), (Value.string ⟨((v).rest).toArray⟩)] ∧ Blk w' (w.heap.size + 1) 35 #[(.bool false), (.int .i64 0), (.string ⟨#[]⟩), (.string ⟨#[]⟩), (.bool false), (.int .u32 0), (.int .i64 0)])
    case first =>
      cases b
      · obtain rfl : u = v := hv
        go_wp2_with fail
        go_meet
        exact ⟨rfl, hw, hBU, hBZ⟩
      · obtain rfl : x = v := hv
        go_wp2_with fail
        go_meet
        refine ⟨rfl, ?_, ?_, ?_⟩
        · iterate 9 with_reducible refine Below.setCell ?_ (by exact Nat.le_refl _) _
          exact hw
        · have h0 := hBU
          replace h0 : Blk _ w.heap.size 28 #[(Value.string ⟨(x.scheme).toArray⟩), (Value.string ⟨(u.host.name).toArray⟩), (.bool u.host.v4), (.int .u32 (u.host.addr : Int)), (.int .i64 u.port), (Value.string ⟨(u.path).toArray⟩), (.bool u.hasQuery), (Value.string ⟨(u.query).toArray⟩), (Value.string ⟨(u.rest).toArray⟩)] := h0.set_ 0 (Value.string ⟨(x.scheme).toArray⟩)
          replace h0 : Blk _ w.heap.size 28 #[(Value.string ⟨(x.scheme).toArray⟩), (Value.string ⟨(x.host.name).toArray⟩), (.bool u.host.v4), (.int .u32 (u.host.addr : Int)), (.int .i64 u.port), (Value.string ⟨(u.path).toArray⟩), (.bool u.hasQuery), (Value.string ⟨(u.query).toArray⟩), (Value.string ⟨(u.rest).toArray⟩)] := h0.set_ 1 (Value.string ⟨(x.host.name).toArray⟩)
          replace h0 : Blk _ w.heap.size 28 #[(Value.string ⟨(x.scheme).toArray⟩), (Value.string ⟨(x.host.name).toArray⟩), (.bool x.host.v4), (.int .u32 (u.host.addr : Int)), (.int .i64 u.port), (Value.string ⟨(u.path).toArray⟩), (.bool u.hasQuery), (Value.string ⟨(u.query).toArray⟩), (Value.string ⟨(u.rest).toArray⟩)] := h0.set_ 2 (.bool x.host.v4)
          replace h0 : Blk _ w.heap.size 28 #[(Value.string ⟨(x.scheme).toArray⟩), (Value.string ⟨(x.host.name).toArray⟩), (.bool x.host.v4), (.int .u32 (x.host.addr : Int)), (.int .i64 u.port), (Value.string ⟨(u.path).toArray⟩), (.bool u.hasQuery), (Value.string ⟨(u.query).toArray⟩), (Value.string ⟨(u.rest).toArray⟩)] := h0.set_ 3 (.int .u32 (x.host.addr : Int))
          replace h0 : Blk _ w.heap.size 28 #[(Value.string ⟨(x.scheme).toArray⟩), (Value.string ⟨(x.host.name).toArray⟩), (.bool x.host.v4), (.int .u32 (x.host.addr : Int)), (.int .i64 x.port), (Value.string ⟨(u.path).toArray⟩), (.bool u.hasQuery), (Value.string ⟨(u.query).toArray⟩), (Value.string ⟨(u.rest).toArray⟩)] := h0.set_ 4 (.int .i64 x.port)
          replace h0 : Blk _ w.heap.size 28 #[(Value.string ⟨(x.scheme).toArray⟩), (Value.string ⟨(x.host.name).toArray⟩), (.bool x.host.v4), (.int .u32 (x.host.addr : Int)), (.int .i64 x.port), (Value.string ⟨(x.path).toArray⟩), (.bool u.hasQuery), (Value.string ⟨(u.query).toArray⟩), (Value.string ⟨(u.rest).toArray⟩)] := h0.set_ 5 (Value.string ⟨(x.path).toArray⟩)
          replace h0 : Blk _ w.heap.size 28 #[(Value.string ⟨(x.scheme).toArray⟩), (Value.string ⟨(x.host.name).toArray⟩), (.bool x.host.v4), (.int .u32 (x.host.addr : Int)), (.int .i64 x.port), (Value.string ⟨(x.path).toArray⟩), (.bool x.hasQuery), (Value.string ⟨(u.query).toArray⟩), (Value.string ⟨(u.rest).toArray⟩)] := h0.set_ 6 (.bool x.hasQuery)
          replace h0 : Blk _ w.heap.size 28 #[(Value.string ⟨(x.scheme).toArray⟩), (Value.string ⟨(x.host.name).toArray⟩), (.bool x.host.v4), (.int .u32 (x.host.addr : Int)), (.int .i64 x.port), (Value.string ⟨(x.path).toArray⟩), (.bool x.hasQuery), (Value.string ⟨(x.query).toArray⟩), (Value.string ⟨(u.rest).toArray⟩)] := h0.set_ 7 (Value.string ⟨(x.query).toArray⟩)
          replace h0 : Blk _ w.heap.size 28 #[(Value.string ⟨(x.scheme).toArray⟩), (Value.string ⟨(x.host.name).toArray⟩), (.bool x.host.v4), (.int .u32 (x.host.addr : Int)), (.int .i64 x.port), (Value.string ⟨(x.path).toArray⟩), (.bool x.hasQuery), (Value.string ⟨(x.query).toArray⟩), (Value.string ⟨(x.rest).toArray⟩)] := h0.set_ 8 (Value.string ⟨(x.rest).toArray⟩)
          exact h0
        · iterate 9 with_reducible refine Blk.far ?_ (Nat.succ_ne_self _) _
          exact hBZ
    case rest =>
      clear hw hBU hBZ hUl hUc hUf hXc
      obtain ⟨-, hw, hBU, hBZ⟩ := hcut
      have hUl := hBU.lt
      have hUc := hBU.cell
      have hZl := hBZ.lt
      have hZc := hBZ.cell
      have hZf := hBZ.frozen
      have hnet := fun W => urlp_net v W
      unfold Gl.origOf at hR
      generalize hn : Gl.isNet v = nn at *
      cases nn with
      | false =>
        rw [if_pos rfl] at hR
        have hf := Lib.hid hR
        clear hR
        replace hnet := Lib.hid hnet
        replace hn := Lib.hid hn
        go_wp2_with (go_at_call 20; refine (hnet.out _).mono ?_; rintro e w1 ⟨rfl, hb⟩; obtain ⟨hc, hfz⟩ := bcell hb; have hz := hb.size; (try simp at hz); (try have hz0 := lt_ hb w.heap.size); (try have hz1 := lt_ hb (w.heap.size + 1)); (try have hz2 := lt_ hb (w.heap.size + 2)); (try have hz3 := lt_ hb (w.heap.size + 3)); (try have hcA := fun o => hc w.heap.size o sz_); (try have hcB := fun o => hc (w.heap.size + 1) o sz_); (try (have i := cf_ hb g; obtain ⟨hcGg, hfGg, hzGg⟩ := i)); (try (have i := cf_ hb gB; obtain ⟨hcGgB, hfGgB, hzGgB⟩ := i)))
        refine bodyPost_ret (v := (.agg #[.bool true, .int .i64 id, .string ⟨#[]⟩, .string ⟨#[]⟩, .bool false, .int .u32 0, .int .i64 0])) (by simp only [results, Tryz.results15]; go_simp) rfl ⟨by rw [ hf.out] <;> rfl, ?_⟩; (exact bw_)
      | true =>
        rw [if_neg (by simp)] at hR
        have hpo : ownOf v.scheme = Gl.own v.scheme := own_net _ hn
        generalize Gl.own v.scheme = po at *
        replace hpo := Lib.hid hpo
        replace hR := Lib.hid hR
        replace hnet := Lib.hid hnet
        replace hn := Lib.hid hn
        go_upto_region 6 with (go_at_call 20; refine (hnet.out _).mono ?_; rintro e w1 ⟨rfl, hb⟩; obtain ⟨hc, hfz⟩ := bcell hb; have hz := hb.size; (try simp at hz); (try have hz0 := lt_ hb w.heap.size); (try have hz1 := lt_ hb (w.heap.size + 1)); (try have hz2 := lt_ hb (w.heap.size + 2)); (try have hz3 := lt_ hb (w.heap.size + 3)); (try have hcA := fun o => hc w.heap.size o sz_); (try have hcB := fun o => hc (w.heap.size + 1) o sz_); (try (have i := cf_ hb g; obtain ⟨hcGg, hfGg, hzGg⟩ := i)); (try (have i := cf_ hb gB; obtain ⟨hcGgB, hfGgB, hzGgB⟩ := i)))
        go_cut [7] from 8 (fun p w' => ∃ g, p = .pointer (some ⟨g, 0, none⟩) ∧ w.heap.size + 2 ≤ g ∧ Below w.heap.size w w' ∧ Blk w' (w.heap.size + 1) 35 #[(.bool false), (.int .i64 0), (.string ⟨#[]⟩), (.string ⟨#[]⟩), (.bool false), (.int .u32 0), (.int .i64 0)] ∧ Blk w' g 35 #[.bool false, .int .i64 0, (Value.string ⟨(v.scheme).toArray⟩), (Value.string ⟨((v.host).name).toArray⟩), (Value.bool (v.host).v4), (Value.int .u32 ((v.host).addr : Int)), .int .i64 v.port])
        case first =>
          go_wp2_with fail
          go_meet
          case rel => exact ⟨_, rfl, by first | omega | (simp; omega), bw_, bk_, bk_⟩
        case rest =>
          clear hw hBU hBZ hUl hUc hZl hZf hZc
          obtain ⟨gB, rfl, hg, hw, hBZ, hBO⟩ := hcut
          have hZl := hBZ.lt
          have hZc := hBZ.cell
          have hZf := hBZ.frozen
          have hOl := hBO.lt
          have hOc := hBO.cell
          have hOf := hBO.frozen
          by_cases hp : v.port < 0
          · have hf : Hid (R = { scheme := v.scheme, host := v.host, port := po }) := Lib.hid (by rw [hR.out, if_pos hp])
            go_upto_region 8 with fail
            go_region_with (go_at_call 48; refine (origin_own_at _).mono ?_; rintro e w1 ⟨⟨rfl, hb⟩, hm⟩; have hlook := look_own1 v.scheme w1 _ hm; rw [hpo.out] at hlook; (try simp at hlook); obtain ⟨hc, hfz⟩ := bcell hb; have hz := hb.size; (try simp at hz); (try have hcGgB := fun o => hc gB o sz_); (try have hfGgB := fun o => hfz gB o sz_); (try have hcB := fun o => hc (w.heap.size + 1) o sz_); (try have hfB := fun o => hfz (w.heap.size + 1) o sz_); (try have hzB : w.heap.size + 1 < w1.heap.size := by omega); (try have hzGgB : gB < w1.heap.size := by omega))
            all_goals (go_wp2_with fail)
            all_goals refine bodyPost_ret (v := (.agg #[.bool false, .int .i64 0, (Value.string ⟨(v.scheme).toArray⟩), (Value.string ⟨((v.host).name).toArray⟩), (Value.bool (v.host).v4), (Value.int .u32 ((v.host).addr : Int)), .int .i64 po])) (by simp only [results, Tryz.results15]; go_simp) rfl ⟨by rw [hf.out] <;> rfl, ?_⟩
            all_goals (exact bw_)
          · have hp2 : 0 ≤ v.port := by omega
            have hf : Hid (R = { scheme := v.scheme, host := v.host, port := v.port }) := Lib.hid (by rw [hR.out, if_neg hp])
            clear hp
            go_wp2_with fail
            refine bodyPost_ret (v := (.agg #[.bool false, .int .i64 0, (Value.string ⟨(v.scheme).toArray⟩), (Value.string ⟨((v.host).name).toArray⟩), (Value.bool (v.host).v4), (Value.int .u32 ((v.host).addr : Int)), .int .i64 v.port])) (by simp only [results, Tryz.results15]; go_simp) rfl ⟨by rw [hf.out] <;> rfl, ?_⟩
            (exact bw_)
end Go.Proofs.YtbafofldgkigmaaGreatDoor
namespace Go.Proofs.YtbafofldgkigmaaGreatDoor
open Go.RowKit
attribute [local irreducible] Calls
def smallS (S : List (List UInt8)) : Bool := decide (S.length ≤ 100) && S.all (fun s => decide (s.length ≤ 1000))
set_option maxHeartbeats 1000000 in
theorem law4_small (v : Value) (S : List (List UInt8)) (w : World) (B : Nat) (hv : Strs w B v S) : Calls Tryz.prog 18 #[v] w (Same w (.bool (smallS S))) := by
  generalize hR : smallS S = R
  unfold smallS at hR
  have H := Lib.hid hv
  obtain ⟨A, c, rfl, hc1, hc2, _⟩ := hv
  unfold maxLen at hc2
  by_cases hl : S.length ≤ 100
  · replace hR : Hid ((S.drop 0).all (fun s => decide (s.length ≤ 1000)) = R) := Lib.hid (by rw [← hR]; simp [hl])
    go_enter Tryz.func18, Tryz.ntmps18
    go_wp2
    go_loop [3] (fun i => ∃ k : Nat, k ≤ S.length ∧ i = .int .i64 k ∧ Hid ((S.drop k).all (fun s => decide (s.length ≤ 1000)) = R)) (fun i => S.length - (intOf i).toNat)
    case atStart => exact ⟨0, Nat.zero_le _, rfl, hR⟩
    case round =>
      obtain ⟨k, hk, rfl, hr⟩ := hrel
      by_cases hlt : k < S.length
      · obtain ⟨sb, so, sd, he, hsB, hcell⟩ := H.out.cells k hlt
        injection he with he1 he2 he3
        subst he1 he3
        have hck := hcell k hlt
        clear hcell
        rw [drop_consL hlt, List.all_cons] at hr
        by_cases hx : 1000 < S[k].length
        · have hf : Hid (R = false) := Lib.hid (by rw [← hr.out]; simp; intro h; omega)
          clear hr
          go_wp2
          go_ret
          exact ret_bool (by rw [hf.out])
        · have hf : Hid ((S.drop (k + 1)).all (fun s => decide (s.length ≤ 1000)) = R) := Lib.hid (by rw [← hr.out]; simp; omega)
          clear hr
          go_wp2
          go_round
          case rel => exact ⟨k + 1, by omega, by go_num, hf⟩
          case measure => simp [intOf]; omega
      · have hf : Hid (R = true) := Lib.hid (by rw [← hr.out, List.drop_eq_nil_of_le (by omega)]; rfl)
        go_wp2
        go_ret
        exact ret_bool (by rw [hf.out])
  · have hf : Hid (R = false) := Lib.hid (by rw [← hR]; simp; intro h; omega)
    go_enter Tryz.func18, Tryz.ntmps18
    go_wp2
    go_ret
    exact ret_bool (by rw [hf.out])
theorem small_out {S : List (List UInt8)} (h : smallS S = true) : S.length ≤ 100 ∧ ∀ s ∈ S, s.length ≤ 1000 := by
  unfold smallS at h
  simp at h
  exact h
theorem web_rest (u : Gl.URL) (rest : List UInt8) (hu : u.rest = []) : (Gl.web u rest).1.rest = [] := by
  cases hp2 : ([47, 47] : List UInt8).isPrefixOf rest with
  | false => rw [web_slash _ _ hp2]
  | true =>
    cases h64 : (Gl.span [47, 63] (rest.drop 2)).1.contains 64 with
    | true => rw [web_at _ _ h64]
    | false =>
      rw [web_more _ _ hp2 h64]
      split
      · rfl
      · split
        · split
          · rfl
          · exact hu
        · exact hu
theorem parse_rest_len (s : List UInt8) : (Gl.parse s).1.rest.length ≤ s.length := by
  have hlen := trim_len s
  unfold Gl.parse
  generalize Gl.netText = inner at *
  by_cases h0 : 2000 < (Gl.trim s).length
  · rw [core_long _ _ h0]; simp
  by_cases h1 : (Gl.span [58] (Gl.trim s)).2 = [] ∨ Gl.scheme (Gl.lower (Gl.span [58] (Gl.trim s)).1) = false
  · rw [core_form _ _ h1]; simp
  have h2 : (Gl.span [58] (Gl.trim s)).2 ≠ [] := fun e => h1 (Or.inl e)
  have h3 : Gl.scheme (Gl.lower (Gl.span [58] (Gl.trim s)).1) = true := by
    cases hh : Gl.scheme (Gl.lower (Gl.span [58] (Gl.trim s)).1) with
    | true => rfl
    | false => exact absurd (Or.inr hh) h1
  rw [core_rest _ _ h0 h2 h3]
  have l1 := span_len [58] (Gl.trim s)
  have l2 := span_len [35] ((Gl.span [58] (Gl.trim s)).2.drop 1)
  rw [List.length_drop] at l2
  split
  · unfold core2
    split
    · simp
    · split
      · have := web_rest { scheme := Gl.lower (Gl.span [58] (Gl.trim s)).1, port := -1 } (Gl.span [35] ((Gl.span [58] (Gl.trim s)).2.drop 1)).1 rfl
        rw [this]; simp
      · split
        · simp
        · split
          · simp
          · simp only; omega
  · simp
end Go.Proofs.YtbafofldgkigmaaGreatDoor
