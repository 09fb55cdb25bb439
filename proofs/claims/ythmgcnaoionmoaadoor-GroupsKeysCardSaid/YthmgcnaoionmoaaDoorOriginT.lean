/- Texts of origins: of the program and of the reference. -/
import Derived.Test.YthmgcnaoionmoaaDoorOriginB
import Derived.Test.YthmgcnaoionmoaaDoorOwn
import Derived.Test.YthmgcnaoionmoaaDoorText
namespace Go.Proofs.YthmgcnaoionmoaaDoor
open Go.RowKit
attribute [local irreducible] Calls

theorem int_beq (a b : Int) : (a == b) = (b == a) := by
  rw [Bool.eq_iff_iff, beq_iff_eq, beq_iff_eq]
  exact ⟨Eq.symm, Eq.symm⟩
theorem own_cases (o : Gl.Origin) : Gl.ownPort o = (hasOwn o.scheme && (ownOf o.scheme == o.port)) := by
  unfold Gl.ownPort hasOwn ownOf
  generalize o.port = p
  generalize o.scheme = s
  have e1 : (Gl.http == Gl.https) = false := by decide
  have e2 : (Gl.https == Gl.http) = false := by decide
  have e3 : ¬ Gl.https = Gl.http := by decide
  by_cases h1 : s = Gl.http
  · rw [h1, e1, beq_self_eq_true, if_pos rfl, int_beq p 80, Bool.false_and, Bool.or_false, Bool.or_false]
  · have b1 : (s == Gl.http) = false := by rw [beq_eq_false_iff_ne]; exact h1
    rw [b1, if_neg h1, Bool.false_and, Bool.false_or, Bool.false_or]
    by_cases h2 : s = Gl.https
    · rw [h2, beq_self_eq_true, if_pos rfl, int_beq p 443]
    · have b2 : (s == Gl.https) = false := by rw [beq_eq_false_iff_ne]; exact h2
      rw [b2, Bool.false_and, Bool.false_and]
structure OWide (o : Gl.Origin) : Prop where
  fits : OFits o
  scheme : o.scheme.length ≤ 4611686018427387904
  port : -9223372036854775808 ≤ o.port ∧ o.port ≤ 9223372036854775807

set_option maxHeartbeats 4000000 in
set_option maxRecDepth 100000 in
theorem origin_text (o : Gl.Origin) (w : World) (hE : Env w) (ho : OWide o) : Calls Tryd.prog 33 #[(Value.agg #[(Value.bool (o).opaq), (Value.int .i64 (o).id), (Value.string ⟨((o).scheme).toArray⟩), (Value.string ⟨(((o).host).name).toArray⟩), (Value.bool ((o).host).v4), (Value.int .u32 (((o).host).addr : Int)), (Value.int .i64 (o).port)])] w (Ret w ((Value.string ⟨(Gl.originText o).toArray⟩))) := by
  have hR : Gl.originText o = if o.opaq then Gl.nullT else o.scheme ++ [58, 47, 47] ++ Gl.hostText o.host ++ (if Gl.ownPort o then [] else [58] ++ Lib.itoa o.port) := rfl
  rw [own_cases] at hR
  generalize Gl.originText o = R at *
  obtain ⟨⟨ha, hn⟩, hs, hp1, hp2⟩ := ho
  obtain ⟨q, i, s, h, p⟩ := o
  simp only at hR ha hn hs hp1 hp2 ⊢
  cases q
  · have hht := fun (W : World) (hW : Below w.heap.size w W) => host_text h W (hE.below hW) ha
    have hhl := hostText_len h ha
    have hil := Lib.itoa_length_le p (by omega) hp2
    have hit := fun (W : World) (hW : Below w.heap.size w W) => itoa_any p (by omega) hp2 W (hE.below hW)
    generalize Gl.hostText h = hx at *
    generalize Lib.itoa p = it at *
    generalize hpo : ownOf s = po at *
    generalize hkn : hasOwn s = kn at *
    simp only [Bool.false_eq_true, if_false] at hR
    replace hpo := Lib.hid hpo
    replace hkn := Lib.hid hkn
    replace hht := Lib.hid hht
    replace hit := Lib.hid hit
    replace hR := Lib.hid hR
    go_enter Tryd.func33, Tryd.ntmps33
    go_upto_region 3 with fail
    go_cut [3] from 6 (fun x w' => x = (Value.string ⟨(s ++ 58 :: 47 :: 47 :: hx).toArray⟩) ∧ Below w.heap.size w w' ∧ Blk w' w.heap.size 40 #[(.bool false), (.int .i64 i), (Value.string ⟨(s).toArray⟩), (Value.string ⟨((h).name).toArray⟩), (Value.bool (h).v4), (Value.int .u32 ((h).addr : Int)), (.int .i64 p)])
    case first =>
      go_wp2_with (go_at_call 59; refine ( hht.out _ (by (repeat' first | (with_reducible exact Below.refl _ _) | (with_reducible refine Below.setCell ?_ (by first | omega | (simp; done) | (simp; omega)) _) | (with_reducible refine Below.alloc ?_ (by first | omega | (simp; done) | (simp; omega)) _) | refine below_drewN ?_ _ | refine Below.drew ?_ | (refine below_thru (by assumption) ?_ (by first | omega | (simp; done) | (simp; omega))) | exact Below.refl _ _))).mono ?_; rintro e w1 ⟨rfl, hb⟩; obtain ⟨hc, hfz⟩ := bcell hb; have hz := hb.size; (try simp at hz); (try have hz0 : w.heap.size < w1.heap.size := by omega); (try have hz1 : w.heap.size + 1 < w1.heap.size := by omega); (try have hz2 : w.heap.size + 2 < w1.heap.size := by omega); (try have hz3 : w.heap.size + 3 < w1.heap.size := by omega); (try have hcA := fun o => hc w.heap.size o (by first | omega | (simp; omega))); (try have hcB := fun o => hc (w.heap.size + 1) o (by first | omega | (simp; omega))); (try have hcGg := fun o => hc g o (by first | omega | (simp; omega))); (try have hfGg := fun o => hfz g o (by first | omega | (simp; omega))); (try have hzGg : g < w1.heap.size := by omega); (try have hcGgA := fun o => hc gA o (by first | omega | (simp; omega))); (try have hfGgA := fun o => hfz gA o (by first | omega | (simp; omega))); (try have hzGgA : gA < w1.heap.size := by omega); (try have hcGgB := fun o => hc gB o (by first | omega | (simp; omega))); (try have hfGgB := fun o => hfz gB o (by first | omega | (simp; omega))); (try have hzGgB : gB < w1.heap.size := by omega); (try have hcGgV := fun o => hc gV o (by first | omega | (simp; omega))); (try have hfGgV := fun o => hfz gV o (by first | omega | (simp; omega))); (try have hzGgV : gV < w1.heap.size := by omega))
      go_region_with (go_at_call 59; refine ( hht.out _ (by (repeat' first | (with_reducible exact Below.refl _ _) | (with_reducible refine Below.setCell ?_ (by first | omega | (simp; done) | (simp; omega)) _) | (with_reducible refine Below.alloc ?_ (by first | omega | (simp; done) | (simp; omega)) _) | refine below_drewN ?_ _ | refine Below.drew ?_ | (refine below_thru (by assumption) ?_ (by first | omega | (simp; done) | (simp; omega))) | exact Below.refl _ _))).mono ?_; rintro e w1 ⟨rfl, hb⟩; obtain ⟨hc, hfz⟩ := bcell hb; have hz := hb.size; (try simp at hz); (try have hz0 : w.heap.size < w1.heap.size := by omega); (try have hz1 : w.heap.size + 1 < w1.heap.size := by omega); (try have hz2 : w.heap.size + 2 < w1.heap.size := by omega); (try have hz3 : w.heap.size + 3 < w1.heap.size := by omega); (try have hcA := fun o => hc w.heap.size o (by first | omega | (simp; omega))); (try have hcB := fun o => hc (w.heap.size + 1) o (by first | omega | (simp; omega))); (try have hcGg := fun o => hc g o (by first | omega | (simp; omega))); (try have hfGg := fun o => hfz g o (by first | omega | (simp; omega))); (try have hzGg : g < w1.heap.size := by omega); (try have hcGgA := fun o => hc gA o (by first | omega | (simp; omega))); (try have hfGgA := fun o => hfz gA o (by first | omega | (simp; omega))); (try have hzGgA : gA < w1.heap.size := by omega); (try have hcGgB := fun o => hc gB o (by first | omega | (simp; omega))); (try have hfGgB := fun o => hfz gB o (by first | omega | (simp; omega))); (try have hzGgB : gB < w1.heap.size := by omega); (try have hcGgV := fun o => hc gV o (by first | omega | (simp; omega))); (try have hfGgV := fun o => hfz gV o (by first | omega | (simp; omega))); (try have hzGgV : gV < w1.heap.size := by omega))
      all_goals (go_wp2_with fail)
      all_goals go_meet
      all_goals exact ⟨by simp, by (repeat' first | (with_reducible exact Below.refl _ _) | (with_reducible refine Below.setCell ?_ (by first | omega | (simp; done) | (simp; omega)) _) | (with_reducible refine Below.alloc ?_ (by first | omega | (simp; done) | (simp; omega)) _) | refine below_drewN ?_ _ | refine Below.drew ?_ | (refine below_thru (by assumption) ?_ (by first | omega | (simp; done) | (simp; omega))) | exact Below.refl _ _), by (repeat' first | (with_reducible assumption) | (with_reducible exact Blk.new _ _ _) | (with_reducible refine Blk.drew_ ?_) | (with_reducible refine Blk.alloc ?_ _) | (refine Blk.below ?_ (by assumption) (by first | omega | (simp; done) | (simp; omega))))⟩
    case rest =>
      obtain ⟨rfl, hw, hB1⟩ := hcut
      have hs0 := hB1.lt
      have hc1 := hB1.cell
      have hz1 := hB1.frozen
      have hfl : (s ++ 58 :: 47 :: 47 :: hx).length ≤ 4611686018429000000 := by simp; omega
      generalize hfx : s ++ 58 :: 47 :: 47 :: hx = fx at *
      replace hfx := Lib.hid hfx
      go_upto_region 4 with fail
      go_cut [4, 5] from 6 (fun x y w' => x = .int .i64 po ∧ y = .bool kn ∧ Below w.heap.size w w' ∧ Blk w' w.heap.size 40 #[(.bool false), (.int .i64 i), (Value.string ⟨(s).toArray⟩), (Value.string ⟨((h).name).toArray⟩), (Value.bool (h).v4), (Value.int .u32 ((h).addr : Int)), (.int .i64 p)])
      case first =>
        go_wp2_with (go_at_call 66; refine (origin_own_at _).mono ?_; rintro e w1 ⟨⟨rfl, hb⟩, hm⟩; have hlook := look_own s w1 _ hm; rw [hpo.out, hkn.out] at hlook; (try simp at hlook); obtain ⟨hc, hfz⟩ := bcell hb; have hz := hb.size; (try simp at hz); (try have hcA := fun o => hc w.heap.size o (by first | omega | (simp; omega))); (try have hz0 : w.heap.size < w1.heap.size := by omega))
        go_region_with (go_at_call 66; refine (origin_own_at _).mono ?_; rintro e w1 ⟨⟨rfl, hb⟩, hm⟩; have hlook := look_own s w1 _ hm; rw [hpo.out, hkn.out] at hlook; (try simp at hlook); obtain ⟨hc, hfz⟩ := bcell hb; have hz := hb.size; (try simp at hz); (try have hcA := fun o => hc w.heap.size o (by first | omega | (simp; omega))); (try have hz0 : w.heap.size < w1.heap.size := by omega))
        all_goals (go_wp2_with fail)
        all_goals go_meet
        all_goals exact ⟨rfl, rfl, by (repeat' first | (with_reducible exact Below.refl _ _) | (with_reducible refine Below.setCell ?_ (by first | omega | (simp; done) | (simp; omega)) _) | (with_reducible refine Below.alloc ?_ (by first | omega | (simp; done) | (simp; omega)) _) | refine below_drewN ?_ _ | refine Below.drew ?_ | (refine below_thru (by assumption) ?_ (by first | omega | (simp; done) | (simp; omega))) | exact Below.refl _ _), by (repeat' first | (with_reducible assumption) | (with_reducible exact Blk.new _ _ _) | (with_reducible refine Blk.drew_ ?_) | (with_reducible refine Blk.alloc ?_ _) | (refine Blk.below ?_ (by assumption) (by first | omega | (simp; done) | (simp; omega))))⟩
      case rest =>
        clear hw hB1 hs0 hc1 hz1
        obtain ⟨rfl, rfl, hw, hB1⟩ := hcut
        have hs0 := hB1.lt
        have hc1 := hB1.cell
        have hz1 := hB1.frozen
        cases hk : kn with
        | false =>
          have hf : Hid (R = fx ++ 58 :: it) := Lib.hid (by rw [hR.out, hk, ← hfx.out]; simp)
          subst hk
          go_wp2_with (go_at_call 60; refine ( hit.out _ (by (repeat' first | (with_reducible exact Below.refl _ _) | (with_reducible refine Below.setCell ?_ (by first | omega | (simp; done) | (simp; omega)) _) | (with_reducible refine Below.alloc ?_ (by first | omega | (simp; done) | (simp; omega)) _) | refine below_drewN ?_ _ | refine Below.drew ?_ | (refine below_thru (by assumption) ?_ (by first | omega | (simp; done) | (simp; omega))) | exact Below.refl _ _))).mono ?_; rintro e w1 ⟨rfl, hb⟩; obtain ⟨hc, hfz⟩ := bcell hb; have hz := hb.size; (try simp at hz); (try have hz0 : w.heap.size < w1.heap.size := by omega); (try have hz1 : w.heap.size + 1 < w1.heap.size := by omega); (try have hz2 : w.heap.size + 2 < w1.heap.size := by omega); (try have hz3 : w.heap.size + 3 < w1.heap.size := by omega); (try have hcA := fun o => hc w.heap.size o (by first | omega | (simp; omega))); (try have hcB := fun o => hc (w.heap.size + 1) o (by first | omega | (simp; omega))); (try have hcGg := fun o => hc g o (by first | omega | (simp; omega))); (try have hfGg := fun o => hfz g o (by first | omega | (simp; omega))); (try have hzGg : g < w1.heap.size := by omega); (try have hcGgA := fun o => hc gA o (by first | omega | (simp; omega))); (try have hfGgA := fun o => hfz gA o (by first | omega | (simp; omega))); (try have hzGgA : gA < w1.heap.size := by omega); (try have hcGgB := fun o => hc gB o (by first | omega | (simp; omega))); (try have hfGgB := fun o => hfz gB o (by first | omega | (simp; omega))); (try have hzGgB : gB < w1.heap.size := by omega); (try have hcGgV := fun o => hc gV o (by first | omega | (simp; omega))); (try have hfGgV := fun o => hfz gV o (by first | omega | (simp; omega))); (try have hzGgV : gV < w1.heap.size := by omega))
          go_ret
          exact ⟨by rw [hf.out]; simp, by (repeat' first | (with_reducible exact Below.refl _ _) | (with_reducible refine Below.setCell ?_ (by first | omega | (simp; done) | (simp; omega)) _) | (with_reducible refine Below.alloc ?_ (by first | omega | (simp; done) | (simp; omega)) _) | refine below_drewN ?_ _ | refine Below.drew ?_ | (refine below_thru (by assumption) ?_ (by first | omega | (simp; done) | (simp; omega))) | exact Below.refl _ _)⟩
        | true =>
          subst hk
          cases hpp : (po == p) with
          | true =>
            have hf : Hid (R = fx) := Lib.hid (by rw [hR.out, hpp, ← hfx.out]; simp)
            go_wp2_with fail
            go_ret
            exact ⟨by rw [hf.out] <;> rfl, by (repeat' first | (with_reducible exact Below.refl _ _) | (with_reducible refine Below.setCell ?_ (by first | omega | (simp; done) | (simp; omega)) _) | (with_reducible refine Below.alloc ?_ (by first | omega | (simp; done) | (simp; omega)) _) | refine below_drewN ?_ _ | refine Below.drew ?_ | (refine below_thru (by assumption) ?_ (by first | omega | (simp; done) | (simp; omega))) | exact Below.refl _ _)⟩
          | false =>
            have hf : Hid (R = fx ++ 58 :: it) := Lib.hid (by rw [hR.out, hpp, ← hfx.out]; simp)
            go_wp2_with (go_at_call 60; refine ( hit.out _ (by (repeat' first | (with_reducible exact Below.refl _ _) | (with_reducible refine Below.setCell ?_ (by first | omega | (simp; done) | (simp; omega)) _) | (with_reducible refine Below.alloc ?_ (by first | omega | (simp; done) | (simp; omega)) _) | refine below_drewN ?_ _ | refine Below.drew ?_ | (refine below_thru (by assumption) ?_ (by first | omega | (simp; done) | (simp; omega))) | exact Below.refl _ _))).mono ?_; rintro e w1 ⟨rfl, hb⟩; obtain ⟨hc, hfz⟩ := bcell hb; have hz := hb.size; (try simp at hz); (try have hz0 : w.heap.size < w1.heap.size := by omega); (try have hz1 : w.heap.size + 1 < w1.heap.size := by omega); (try have hz2 : w.heap.size + 2 < w1.heap.size := by omega); (try have hz3 : w.heap.size + 3 < w1.heap.size := by omega); (try have hcA := fun o => hc w.heap.size o (by first | omega | (simp; omega))); (try have hcB := fun o => hc (w.heap.size + 1) o (by first | omega | (simp; omega))); (try have hcGg := fun o => hc g o (by first | omega | (simp; omega))); (try have hfGg := fun o => hfz g o (by first | omega | (simp; omega))); (try have hzGg : g < w1.heap.size := by omega); (try have hcGgA := fun o => hc gA o (by first | omega | (simp; omega))); (try have hfGgA := fun o => hfz gA o (by first | omega | (simp; omega))); (try have hzGgA : gA < w1.heap.size := by omega); (try have hcGgB := fun o => hc gB o (by first | omega | (simp; omega))); (try have hfGgB := fun o => hfz gB o (by first | omega | (simp; omega))); (try have hzGgB : gB < w1.heap.size := by omega); (try have hcGgV := fun o => hc gV o (by first | omega | (simp; omega))); (try have hfGgV := fun o => hfz gV o (by first | omega | (simp; omega))); (try have hzGgV : gV < w1.heap.size := by omega))
            go_ret
            exact ⟨by rw [hf.out]; simp, by (repeat' first | (with_reducible exact Below.refl _ _) | (with_reducible refine Below.setCell ?_ (by first | omega | (simp; done) | (simp; omega)) _) | (with_reducible refine Below.alloc ?_ (by first | omega | (simp; done) | (simp; omega)) _) | refine below_drewN ?_ _ | refine Below.drew ?_ | (refine below_thru (by assumption) ?_ (by first | omega | (simp; done) | (simp; omega))) | exact Below.refl _ _)⟩
  · have hf : Hid (R = [110, 117, 108, 108]) := Lib.hid (by rw [hR]; rfl)
    clear hR
    go_enter Tryd.func33, Tryd.ntmps33
    go_wp2
    go_ret
    exact ⟨by rw [hf.out] <;> rfl, by (repeat' first | (with_reducible exact Below.refl _ _) | (with_reducible refine Below.setCell ?_ (by first | omega | (simp; done) | (simp; omega)) _) | (with_reducible refine Below.alloc ?_ (by first | omega | (simp; done) | (simp; omega)) _) | refine below_drewN ?_ _ | refine Below.drew ?_ | (refine below_thru (by assumption) ?_ (by first | omega | (simp; done) | (simp; omega))) | exact Below.refl _ _)⟩
set_option maxHeartbeats 4000000 in
set_option maxRecDepth 100000 in
theorem ref4_text (o : Gl.Origin) (w : World) (hE : Env w) (ho : OWide o) : Calls Tryd.prog 34 #[(Value.agg #[(Value.bool (o).opaq), (Value.int .i64 (o).id), (Value.string ⟨((o).scheme).toArray⟩), (Value.string ⟨(((o).host).name).toArray⟩), (Value.bool ((o).host).v4), (Value.int .u32 (((o).host).addr : Int)), (Value.int .i64 (o).port)])] w (Ret w ((Value.string ⟨(Gl.originText o).toArray⟩))) := by
  have hR : Gl.originText o = if o.opaq then Gl.nullT else o.scheme ++ [58, 47, 47] ++ Gl.hostText o.host ++ (if Gl.ownPort o then [] else [58] ++ Lib.itoa o.port) := rfl
  have hkn : ((o.scheme == [104, 116, 116, 112] && o.port == 80) || (o.scheme == [104, 116, 116, 112, 115] && o.port == 443)) = Gl.ownPort o := rfl
  generalize Gl.originText o = R at *
  generalize Gl.ownPort o = kn at *
  obtain ⟨⟨ha, hn⟩, hs, hp1, hp2⟩ := ho
  obtain ⟨q, i, s, h, p⟩ := o
  simp only at hR hkn ha hn hs hp1 hp2 ⊢
  cases q
  · have hht := fun (W : World) (hW : Below w.heap.size w W) => ref2_text h W (hE.below hW) ha
    have hhl := hostText_len h ha
    have hil := Lib.itoa_length_le p (by omega) hp2
    have hit := fun (W : World) (hW : Below w.heap.size w W) => itoa_any p (by omega) hp2 W (hE.below hW)
    generalize Gl.hostText h = hx at *
    generalize Lib.itoa p = it at *
    simp only [Bool.false_eq_true, if_false] at hR
    replace hkn := Lib.hid hkn
    replace hht := Lib.hid hht
    replace hit := Lib.hid hit
    replace hR := Lib.hid hR
    go_enter Tryd.func34, Tryd.ntmps34
    go_upto_region 3 with fail
    go_cut [3] from 5 (fun x w' => x = (Value.string ⟨(s ++ 58 :: 47 :: 47 :: hx).toArray⟩) ∧ Below w.heap.size w w' ∧ Blk w' w.heap.size 40 #[(.bool false), (.int .i64 i), (Value.string ⟨(s).toArray⟩), (Value.string ⟨((h).name).toArray⟩), (Value.bool (h).v4), (Value.int .u32 ((h).addr : Int)), (.int .i64 p)])
    case first =>
      go_wp2_with (go_at_call 61; refine ( hht.out _ (by (repeat' first | (with_reducible exact Below.refl _ _) | (with_reducible refine Below.setCell ?_ (by first | omega | (simp; done) | (simp; omega)) _) | (with_reducible refine Below.alloc ?_ (by first | omega | (simp; done) | (simp; omega)) _) | refine below_drewN ?_ _ | refine Below.drew ?_ | (refine below_thru (by assumption) ?_ (by first | omega | (simp; done) | (simp; omega))) | exact Below.refl _ _))).mono ?_; rintro e w1 ⟨rfl, hb⟩; obtain ⟨hc, hfz⟩ := bcell hb; have hz := hb.size; (try simp at hz); (try have hz0 : w.heap.size < w1.heap.size := by omega); (try have hz1 : w.heap.size + 1 < w1.heap.size := by omega); (try have hz2 : w.heap.size + 2 < w1.heap.size := by omega); (try have hz3 : w.heap.size + 3 < w1.heap.size := by omega); (try have hcA := fun o => hc w.heap.size o (by first | omega | (simp; omega))); (try have hcB := fun o => hc (w.heap.size + 1) o (by first | omega | (simp; omega))); (try have hcGg := fun o => hc g o (by first | omega | (simp; omega))); (try have hfGg := fun o => hfz g o (by first | omega | (simp; omega))); (try have hzGg : g < w1.heap.size := by omega); (try have hcGgA := fun o => hc gA o (by first | omega | (simp; omega))); (try have hfGgA := fun o => hfz gA o (by first | omega | (simp; omega))); (try have hzGgA : gA < w1.heap.size := by omega); (try have hcGgB := fun o => hc gB o (by first | omega | (simp; omega))); (try have hfGgB := fun o => hfz gB o (by first | omega | (simp; omega))); (try have hzGgB : gB < w1.heap.size := by omega); (try have hcGgV := fun o => hc gV o (by first | omega | (simp; omega))); (try have hfGgV := fun o => hfz gV o (by first | omega | (simp; omega))); (try have hzGgV : gV < w1.heap.size := by omega))
      go_region_with (go_at_call 61; refine ( hht.out _ (by (repeat' first | (with_reducible exact Below.refl _ _) | (with_reducible refine Below.setCell ?_ (by first | omega | (simp; done) | (simp; omega)) _) | (with_reducible refine Below.alloc ?_ (by first | omega | (simp; done) | (simp; omega)) _) | refine below_drewN ?_ _ | refine Below.drew ?_ | (refine below_thru (by assumption) ?_ (by first | omega | (simp; done) | (simp; omega))) | exact Below.refl _ _))).mono ?_; rintro e w1 ⟨rfl, hb⟩; obtain ⟨hc, hfz⟩ := bcell hb; have hz := hb.size; (try simp at hz); (try have hz0 : w.heap.size < w1.heap.size := by omega); (try have hz1 : w.heap.size + 1 < w1.heap.size := by omega); (try have hz2 : w.heap.size + 2 < w1.heap.size := by omega); (try have hz3 : w.heap.size + 3 < w1.heap.size := by omega); (try have hcA := fun o => hc w.heap.size o (by first | omega | (simp; omega))); (try have hcB := fun o => hc (w.heap.size + 1) o (by first | omega | (simp; omega))); (try have hcGg := fun o => hc g o (by first | omega | (simp; omega))); (try have hfGg := fun o => hfz g o (by first | omega | (simp; omega))); (try have hzGg : g < w1.heap.size := by omega); (try have hcGgA := fun o => hc gA o (by first | omega | (simp; omega))); (try have hfGgA := fun o => hfz gA o (by first | omega | (simp; omega))); (try have hzGgA : gA < w1.heap.size := by omega); (try have hcGgB := fun o => hc gB o (by first | omega | (simp; omega))); (try have hfGgB := fun o => hfz gB o (by first | omega | (simp; omega))); (try have hzGgB : gB < w1.heap.size := by omega); (try have hcGgV := fun o => hc gV o (by first | omega | (simp; omega))); (try have hfGgV := fun o => hfz gV o (by first | omega | (simp; omega))); (try have hzGgV : gV < w1.heap.size := by omega))
      all_goals (go_wp2_with fail)
      all_goals go_meet
      all_goals exact ⟨by simp, by (repeat' first | (with_reducible exact Below.refl _ _) | (with_reducible refine Below.setCell ?_ (by first | omega | (simp; done) | (simp; omega)) _) | (with_reducible refine Below.alloc ?_ (by first | omega | (simp; done) | (simp; omega)) _) | refine below_drewN ?_ _ | refine Below.drew ?_ | (refine below_thru (by assumption) ?_ (by first | omega | (simp; done) | (simp; omega))) | exact Below.refl _ _), by (repeat' first | (with_reducible assumption) | (with_reducible exact Blk.new _ _ _) | (with_reducible refine Blk.drew_ ?_) | (with_reducible refine Blk.alloc ?_ _) | (refine Blk.below ?_ (by assumption) (by first | omega | (simp; done) | (simp; omega))))⟩
    case rest =>
      obtain ⟨rfl, hw, hB1⟩ := hcut
      have hs0 := hB1.lt
      have hc1 := hB1.cell
      have hz1 := hB1.frozen
      have hfl : (s ++ 58 :: 47 :: 47 :: hx).length ≤ 4611686018429000000 := by simp; omega
      generalize hfx : s ++ 58 :: 47 :: 47 :: hx = fx at *
      replace hfx := Lib.hid hfx
      go_upto_region 4 with fail
      go_cut [4] from 5 (fun y w' => y = .bool kn ∧ Below w.heap.size w w' ∧ Blk w' w.heap.size 40 #[(.bool false), (.int .i64 i), (Value.string ⟨(s).toArray⟩), (Value.string ⟨((h).name).toArray⟩), (Value.bool (h).v4), (Value.int .u32 ((h).addr : Int)), (.int .i64 p)])
      case first =>
        cases h1 : (s == ([104, 116, 116, 112] : List UInt8)) <;> cases h2 : (p == 80) <;> cases h3 : (s == ([104, 116, 116, 112, 115] : List UInt8)) <;> cases h4 : (p == 443)
        all_goals
          have hf : Hid (kn = _) := Lib.hid (by rw [← hkn.out, h1, h2, h3, h4])
          go_wp2_with fail
          go_meet
          exact ⟨by rw [hf.out] <;> rfl, by (repeat' first | (with_reducible exact Below.refl _ _) | (with_reducible refine Below.setCell ?_ (by first | omega | (simp; done) | (simp; omega)) _) | (with_reducible refine Below.alloc ?_ (by first | omega | (simp; done) | (simp; omega)) _) | refine below_drewN ?_ _ | refine Below.drew ?_ | (refine below_thru (by assumption) ?_ (by first | omega | (simp; done) | (simp; omega))) | exact Below.refl _ _), by (repeat' first | (with_reducible assumption) | (with_reducible exact Blk.new _ _ _) | (with_reducible refine Blk.drew_ ?_) | (with_reducible refine Blk.alloc ?_ _) | (refine Blk.below ?_ (by assumption) (by first | omega | (simp; done) | (simp; omega))))⟩
      case rest =>
        clear hw hB1 hs0 hc1 hz1
        obtain ⟨rfl, hw, hB1⟩ := hcut
        have hs0 := hB1.lt
        have hc1 := hB1.cell
        have hz1 := hB1.frozen
        cases hk : kn with
        | true =>
          have hf : Hid (R = fx) := Lib.hid (by rw [hR.out, hk, ← hfx.out]; simp)
          subst hk
          go_wp2_with fail
          go_ret
          exact ⟨by rw [hf.out] <;> rfl, by (repeat' first | (with_reducible exact Below.refl _ _) | (with_reducible refine Below.setCell ?_ (by first | omega | (simp; done) | (simp; omega)) _) | (with_reducible refine Below.alloc ?_ (by first | omega | (simp; done) | (simp; omega)) _) | refine below_drewN ?_ _ | refine Below.drew ?_ | (refine below_thru (by assumption) ?_ (by first | omega | (simp; done) | (simp; omega))) | exact Below.refl _ _)⟩
        | false =>
          have hf : Hid (R = fx ++ 58 :: it) := Lib.hid (by rw [hR.out, hk, ← hfx.out]; simp)
          subst hk
          go_wp2_with (go_at_call 60; refine ( hit.out _ (by (repeat' first | (with_reducible exact Below.refl _ _) | (with_reducible refine Below.setCell ?_ (by first | omega | (simp; done) | (simp; omega)) _) | (with_reducible refine Below.alloc ?_ (by first | omega | (simp; done) | (simp; omega)) _) | refine below_drewN ?_ _ | refine Below.drew ?_ | (refine below_thru (by assumption) ?_ (by first | omega | (simp; done) | (simp; omega))) | exact Below.refl _ _))).mono ?_; rintro e w1 ⟨rfl, hb⟩; obtain ⟨hc, hfz⟩ := bcell hb; have hz := hb.size; (try simp at hz); (try have hz0 : w.heap.size < w1.heap.size := by omega); (try have hz1 : w.heap.size + 1 < w1.heap.size := by omega); (try have hz2 : w.heap.size + 2 < w1.heap.size := by omega); (try have hz3 : w.heap.size + 3 < w1.heap.size := by omega); (try have hcA := fun o => hc w.heap.size o (by first | omega | (simp; omega))); (try have hcB := fun o => hc (w.heap.size + 1) o (by first | omega | (simp; omega))); (try have hcGg := fun o => hc g o (by first | omega | (simp; omega))); (try have hfGg := fun o => hfz g o (by first | omega | (simp; omega))); (try have hzGg : g < w1.heap.size := by omega); (try have hcGgA := fun o => hc gA o (by first | omega | (simp; omega))); (try have hfGgA := fun o => hfz gA o (by first | omega | (simp; omega))); (try have hzGgA : gA < w1.heap.size := by omega); (try have hcGgB := fun o => hc gB o (by first | omega | (simp; omega))); (try have hfGgB := fun o => hfz gB o (by first | omega | (simp; omega))); (try have hzGgB : gB < w1.heap.size := by omega); (try have hcGgV := fun o => hc gV o (by first | omega | (simp; omega))); (try have hfGgV := fun o => hfz gV o (by first | omega | (simp; omega))); (try have hzGgV : gV < w1.heap.size := by omega))
          go_ret
          exact ⟨by rw [hf.out]; simp, by (repeat' first | (with_reducible exact Below.refl _ _) | (with_reducible refine Below.setCell ?_ (by first | omega | (simp; done) | (simp; omega)) _) | (with_reducible refine Below.alloc ?_ (by first | omega | (simp; done) | (simp; omega)) _) | refine below_drewN ?_ _ | refine Below.drew ?_ | (refine below_thru (by assumption) ?_ (by first | omega | (simp; done) | (simp; omega))) | exact Below.refl _ _)⟩
  · have hf : Hid (R = [110, 117, 108, 108]) := Lib.hid (by rw [hR]; rfl)
    clear hR
    go_enter Tryd.func34, Tryd.ntmps34
    go_wp2
    go_ret
    exact ⟨by rw [hf.out] <;> rfl, by (repeat' first | (with_reducible exact Below.refl _ _) | (with_reducible refine Below.setCell ?_ (by first | omega | (simp; done) | (simp; omega)) _) | (with_reducible refine Below.alloc ?_ (by first | omega | (simp; done) | (simp; omega)) _) | refine below_drewN ?_ _ | refine Below.drew ?_ | (refine below_thru (by assumption) ?_ (by first | omega | (simp; done) | (simp; omega))) | exact Below.refl _ _)⟩
end Go.Proofs.YthmgcnaoionmoaaDoor
