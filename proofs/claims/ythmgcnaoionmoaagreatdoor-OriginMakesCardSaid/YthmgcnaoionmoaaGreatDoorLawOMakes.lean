/- The law OriginMakes, walked. -/
import Derived.Test.YthmgcnaoionmoaaGreatDoorAwake4
import Derived.Test.YthmgcnaoionmoaaGreatDoorRef4Of
import Derived.Deep.RegionHeld3
namespace Go.Proofs.YthmgcnaoionmoaaGreatDoor
open Go.RowKit
attribute [local irreducible] Calls
theorem own_range (s : Gl.Bs) : 0 ≤ Gl.own s ∧ Gl.own s ≤ 443 := by unfold Gl.own; split <;> decide
theorem hostParse_small (s : Gl.Bs) : (Gl.hostParse s).1.addr < 4294967296 ∧ (Gl.hostParse s).1.name.length ≤ 253 := by
  have key : ∀ l : Gl.Bs, (Gl.hostOf l).1.addr < 4294967296 ∧ (Gl.hostOf l).1.name.length ≤ 253 := by
    intro l
    unfold Gl.hostOf
    split
    · exact ⟨by decide, by decide⟩
    · rename_i hl
      unfold Gl.host1
      split
      · exact ⟨by decide, by decide⟩
      · unfold Gl.host2
        split
        · exact ⟨by show (0 : Nat) < _; omega, by show l.length ≤ _; omega⟩
        · split
          · exact ⟨by decide, by decide⟩
          · unfold Gl.host3
            split
            · exact ⟨by decide, by decide⟩
            · rename_i a ha
              have : ∀ (L : List Gl.Bs) (b c : Nat), b < 4294967296 → Gl.addrGo b L = some c → c < 4294967296 := by
                intro L
                induction L with
                | nil => intro b c hb h; simp [Gl.addrGo] at h; omega
                | cons x r ih =>
                  intro b c hb h
                  unfold Gl.addrGo at h
                  split at h
                  · cases h
                  · exact ih _ _ (Nat.mod_lt _ (by decide)) h
              exact ⟨this _ _ _ (by decide) ha, by show ([] : Gl.Bs).length ≤ _; simp⟩
  exact key _
theorem web_small (u : Gl.URL) (rest : Gl.Bs) (hp : u.port = -1) : (Gl.web u rest).1.host.addr < 4294967296 ∧ (Gl.web u rest).1.host.name.length ≤ 253 ∧ -1 ≤ (Gl.web u rest).1.port ∧ (Gl.web u rest).1.port ≤ 65535 := by
  cases hp2 : ([47, 47] : List UInt8).isPrefixOf rest with
  | false => rw [web_slash _ _ hp2]; exact ⟨by decide, by decide, by decide, by decide⟩
  | true =>
    cases h64 : (Gl.span [47, 63] (rest.drop 2)).1.contains 64 with
    | true => rw [web_at _ _ h64]; exact ⟨by decide, by decide, by decide, by decide⟩
    | false =>
      rw [web_more _ _ hp2 h64]
      have hh := hostParse_small (Gl.span [58] (Gl.span [47, 63] (rest.drop 2)).1).1
      split
      · exact ⟨by show (0 : Nat) < _; omega, by show ([] : Gl.Bs).length ≤ _; simp, by show (-1 : Int) ≤ 0; omega, by show (0 : Int) ≤ 65535; omega⟩
      · split
        · split
          · exact ⟨by decide, by decide, by decide, by decide⟩
          · rename_i n hn
            have := number_range (by decide) hn
            refine ⟨hh.1, hh.2, ?_⟩
            simp only
            split <;> omega
        · exact ⟨hh.1, hh.2, by simp only; omega, by simp only; omega⟩
theorem parse_small (s : Gl.Bs) : (Gl.parse s).1.host.addr < 4294967296 ∧ (Gl.parse s).1.host.name.length ≤ 253 ∧ -1 ≤ (Gl.parse s).1.port ∧ (Gl.parse s).1.port ≤ 65535 ∧ (Gl.parse s).1.scheme.length ≤ s.length := by
  have hlen := trim_len s
  unfold Gl.parse
  generalize Gl.netText = inner at *
  have zz : (({} : Gl.URL).host.addr < 4294967296 ∧ ({} : Gl.URL).host.name.length ≤ 253 ∧ -1 ≤ ({} : Gl.URL).port ∧ ({} : Gl.URL).port ≤ 65535 ∧ ({} : Gl.URL).scheme.length ≤ s.length) := ⟨by decide, by decide, by decide, by decide, by simp⟩
  by_cases h0 : 2000 < (Gl.trim s).length
  · rw [core_long _ _ h0]; exact zz
  by_cases h1 : (Gl.span [58] (Gl.trim s)).2 = [] ∨ Gl.scheme (Gl.lower (Gl.span [58] (Gl.trim s)).1) = false
  · rw [core_form _ _ h1]; exact zz
  have h2 : (Gl.span [58] (Gl.trim s)).2 ≠ [] := fun e => h1 (Or.inl e)
  have h3 : Gl.scheme (Gl.lower (Gl.span [58] (Gl.trim s)).1) = true := by
    cases hh : Gl.scheme (Gl.lower (Gl.span [58] (Gl.trim s)).1) with
    | true => rfl
    | false => exact absurd (Or.inr hh) h1
  rw [core_rest _ _ h0 h2 h3]
  have l1 := span_len [58] (Gl.trim s)
  have l3 : (Gl.lower (Gl.span [58] (Gl.trim s)).1).length = (Gl.span [58] (Gl.trim s)).1.length := by simp [Gl.lower]
  generalize Gl.lower (Gl.span [58] (Gl.trim s)).1 = sc at *
  generalize (Gl.span [35] ((Gl.span [58] (Gl.trim s)).2.drop 1)).1 = rest at *
  have hsc : sc.length ≤ s.length := by omega
  split
  · unfold core2
    split
    · exact zz
    · split
      · have hw := web_small { scheme := sc, port := -1 } rest rfl
        refine ⟨hw.1, hw.2.1, hw.2.2.1, hw.2.2.2, ?_⟩
        cases hp2 : ([47, 47] : List UInt8).isPrefixOf rest with
        | false => rw [web_slash _ _ hp2]; simp
        | true =>
          cases h64 : (Gl.span [47, 63] (rest.drop 2)).1.contains 64 with
          | true => rw [web_at _ _ h64]; simp
          | false =>
            rw [web_more _ _ hp2 h64]
            split
            · simp
            · split
              · split
                · simp
                · exact hsc
              · exact hsc
      · split
        · exact zz
        · split
          · exact zz
          · exact ⟨by show (0 : Nat) < _; omega, by show ([] : Gl.Bs).length ≤ _; simp, by show (-1 : Int) ≤ -1; omega, by show (-1 : Int) ≤ 65535; omega, hsc⟩
  · exact zz
theorem origin_wide (u : Gl.URL) (id : Int) (ha : u.host.addr < 4294967296) (hn : u.host.name.length ≤ 1000000) (hs : u.scheme.length ≤ 1000000) (hr : u.rest.length ≤ 1000000) (hp : -9223372036854775808 ≤ u.port ∧ u.port ≤ 9223372036854775807) : OWide (Gl.originOf u id) := by
  have key : ∀ v : Gl.URL, v.host.addr < 4294967296 → v.host.name.length ≤ 1000000 → v.scheme.length ≤ 1000000 → -9223372036854775808 ≤ v.port ∧ v.port ≤ 9223372036854775807 → OWide (Gl.origOf v id) := by
    intro v h1 h2 h3 h4
    unfold Gl.origOf
    split
    · exact ⟨⟨by show (0 : Nat) < _; omega, by show ([] : Gl.Bs).length ≤ _; simp⟩, by show ([] : Gl.Bs).length ≤ _; simp, by show (-9223372036854775808 : Int) ≤ 0 ∧ (0 : Int) ≤ 9223372036854775807; omega⟩
    · have := own_range v.scheme
      refine ⟨⟨h1, h2⟩, by show v.scheme.length ≤ _; omega, ?_⟩
      show _ ≤ (if v.port < 0 then Gl.own v.scheme else v.port) ∧ (if v.port < 0 then Gl.own v.scheme else v.port) ≤ _
      split <;> omega
  unfold Gl.originOf
  split
  · rename_i hb
    have hp2 := parse_small u.rest
    have hi : (Gl.innerOf u).1 = (Gl.parse u.rest).1 := by
      unfold Gl.innerOf at hb ⊢
      split
      · rename_i h; rw [if_pos h] at hb; cases hb
      · rename_i h
        rw [if_neg h] at hb
        split
        · rename_i h; rw [if_pos h] at hb; cases hb
        · rfl
    rw [hi]
    exact key _ hp2.1 (by omega) (by omega) (by omega)
  · exact key u ha hn hs hp
set_option maxHeartbeats 4000000 in
set_option maxRecDepth 100000 in
theorem law4_makes (u : Gl.URL) (id : Int) (w : World) (hE : Env w) (ha0 : u.host.addr < 4294967296) (hp0 : -9223372036854775808 ≤ u.port ∧ u.port ≤ 9223372036854775807) : Calls Tryz.prog 3 #[(Value.agg #[(Value.string ⟨((u).scheme).toArray⟩), (Value.string ⟨(((u).host).name).toArray⟩), (Value.bool ((u).host).v4), (Value.int .u32 (((u).host).addr : Int)), (Value.int .i64 (u).port), (Value.string ⟨((u).path).toArray⟩), (Value.bool (u).hasQuery), (Value.string ⟨((u).query).toArray⟩), (Value.string ⟨((u).rest).toArray⟩)]), .int .i64 id] w (Ret w (.bool true)) := by
  by_cases hl : 3000 < (u.rest).length
  · go_enter Tryz.func3, Tryz.ntmps3
    go_wp2_with (go_at_call 4; refine ( awake4 _ (hE.below (by (repeat' first | (with_reducible exact Below.refl _ _) | (with_reducible refine Below.setCell ?_ (by first | omega | (simp; done) | (simp; omega)) _) | (with_reducible refine Below.alloc ?_ (by first | omega | (simp; done) | (simp; omega)) _) | refine below_drewN ?_ _ | refine Below.drew ?_ | (refine below_thru (by assumption) ?_ (by first | omega | (simp; done) | (simp; omega))) | exact Below.refl _ _)))).mono ?_; rintro e w1 ⟨rfl, hb⟩; obtain ⟨hc, hfz⟩ := bcell hb; have hz := hb.size; (try simp at hz); (try have hz0 : w.heap.size < w1.heap.size := by omega); (try have hz1 : w.heap.size + 1 < w1.heap.size := by omega); (try have hz2 : w.heap.size + 2 < w1.heap.size := by omega); (try have hz3 : w.heap.size + 3 < w1.heap.size := by omega); (try have hcA := fun o => hc w.heap.size o (by first | omega | (simp; omega))); (try have hcB := fun o => hc (w.heap.size + 1) o (by first | omega | (simp; omega))); (try have hcGg := fun o => hc g o (by first | omega | (simp; omega))); (try have hfGg := fun o => hfz g o (by first | omega | (simp; omega))); (try have hzGg : g < w1.heap.size := by omega); (try have hcGgA := fun o => hc gA o (by first | omega | (simp; omega))); (try have hfGgA := fun o => hfz gA o (by first | omega | (simp; omega))); (try have hzGgA : gA < w1.heap.size := by omega); (try have hcGgB := fun o => hc gB o (by first | omega | (simp; omega))); (try have hfGgB := fun o => hfz gB o (by first | omega | (simp; omega))); (try have hzGgB : gB < w1.heap.size := by omega); (try have hcGgC := fun o => hc gC o (by first | omega | (simp; omega))); (try have hfGgC := fun o => hfz gC o (by first | omega | (simp; omega))); (try have hzGgC : gC < w1.heap.size := by omega); (try have hcGgD := fun o => hc gD o (by first | omega | (simp; omega))); (try have hfGgD := fun o => hfz gD o (by first | omega | (simp; omega))); (try have hzGgD : gD < w1.heap.size := by omega); (try have hcGgE := fun o => hc gE o (by first | omega | (simp; omega))); (try have hfGgE := fun o => hfz gE o (by first | omega | (simp; omega))); (try have hzGgE : gE < w1.heap.size := by omega); (try have hcGgF := fun o => hc gF o (by first | omega | (simp; omega))); (try have hfGgF := fun o => hfz gF o (by first | omega | (simp; omega))); (try have hzGgF : gF < w1.heap.size := by omega); (try have hcGgV := fun o => hc gV o (by first | omega | (simp; omega))); (try have hfGgV := fun o => hfz gV o (by first | omega | (simp; omega))); (try have hzGgV : gV < w1.heap.size := by omega))
    go_ret
    exact ⟨rfl, by (repeat' first | (with_reducible exact Below.refl _ _) | (with_reducible refine Below.setCell ?_ (by first | omega | (simp; done) | (simp; omega)) _) | (with_reducible refine Below.alloc ?_ (by first | omega | (simp; done) | (simp; omega)) _) | refine below_drewN ?_ _ | refine Below.drew ?_ | (refine below_thru (by assumption) ?_ (by first | omega | (simp; done) | (simp; omega))) | exact Below.refl _ _)⟩
  replace hl : (u.rest).length ≤ 3000 := by omega
  by_cases hl2 : 3000 < (u.host.name).length
  · go_enter Tryz.func3, Tryz.ntmps3
    go_wp2_with (go_at_call 4; refine ( awake4 _ (hE.below (by (repeat' first | (with_reducible exact Below.refl _ _) | (with_reducible refine Below.setCell ?_ (by first | omega | (simp; done) | (simp; omega)) _) | (with_reducible refine Below.alloc ?_ (by first | omega | (simp; done) | (simp; omega)) _) | refine below_drewN ?_ _ | refine Below.drew ?_ | (refine below_thru (by assumption) ?_ (by first | omega | (simp; done) | (simp; omega))) | exact Below.refl _ _)))).mono ?_; rintro e w1 ⟨rfl, hb⟩; obtain ⟨hc, hfz⟩ := bcell hb; have hz := hb.size; (try simp at hz); (try have hz0 : w.heap.size < w1.heap.size := by omega); (try have hz1 : w.heap.size + 1 < w1.heap.size := by omega); (try have hz2 : w.heap.size + 2 < w1.heap.size := by omega); (try have hz3 : w.heap.size + 3 < w1.heap.size := by omega); (try have hcA := fun o => hc w.heap.size o (by first | omega | (simp; omega))); (try have hcB := fun o => hc (w.heap.size + 1) o (by first | omega | (simp; omega))); (try have hcGg := fun o => hc g o (by first | omega | (simp; omega))); (try have hfGg := fun o => hfz g o (by first | omega | (simp; omega))); (try have hzGg : g < w1.heap.size := by omega); (try have hcGgA := fun o => hc gA o (by first | omega | (simp; omega))); (try have hfGgA := fun o => hfz gA o (by first | omega | (simp; omega))); (try have hzGgA : gA < w1.heap.size := by omega); (try have hcGgB := fun o => hc gB o (by first | omega | (simp; omega))); (try have hfGgB := fun o => hfz gB o (by first | omega | (simp; omega))); (try have hzGgB : gB < w1.heap.size := by omega); (try have hcGgC := fun o => hc gC o (by first | omega | (simp; omega))); (try have hfGgC := fun o => hfz gC o (by first | omega | (simp; omega))); (try have hzGgC : gC < w1.heap.size := by omega); (try have hcGgD := fun o => hc gD o (by first | omega | (simp; omega))); (try have hfGgD := fun o => hfz gD o (by first | omega | (simp; omega))); (try have hzGgD : gD < w1.heap.size := by omega); (try have hcGgE := fun o => hc gE o (by first | omega | (simp; omega))); (try have hfGgE := fun o => hfz gE o (by first | omega | (simp; omega))); (try have hzGgE : gE < w1.heap.size := by omega); (try have hcGgF := fun o => hc gF o (by first | omega | (simp; omega))); (try have hfGgF := fun o => hfz gF o (by first | omega | (simp; omega))); (try have hzGgF : gF < w1.heap.size := by omega); (try have hcGgV := fun o => hc gV o (by first | omega | (simp; omega))); (try have hfGgV := fun o => hfz gV o (by first | omega | (simp; omega))); (try have hzGgV : gV < w1.heap.size := by omega))
    go_ret
    exact ⟨rfl, by (repeat' first | (with_reducible exact Below.refl _ _) | (with_reducible refine Below.setCell ?_ (by first | omega | (simp; done) | (simp; omega)) _) | (with_reducible refine Below.alloc ?_ (by first | omega | (simp; done) | (simp; omega)) _) | refine below_drewN ?_ _ | refine Below.drew ?_ | (refine below_thru (by assumption) ?_ (by first | omega | (simp; done) | (simp; omega))) | exact Below.refl _ _)⟩
  replace hl2 : (u.host.name).length ≤ 3000 := by omega
  by_cases hl3 : 3000 < (u.scheme).length
  · go_enter Tryz.func3, Tryz.ntmps3
    go_wp2_with (go_at_call 4; refine ( awake4 _ (hE.below (by (repeat' first | (with_reducible exact Below.refl _ _) | (with_reducible refine Below.setCell ?_ (by first | omega | (simp; done) | (simp; omega)) _) | (with_reducible refine Below.alloc ?_ (by first | omega | (simp; done) | (simp; omega)) _) | refine below_drewN ?_ _ | refine Below.drew ?_ | (refine below_thru (by assumption) ?_ (by first | omega | (simp; done) | (simp; omega))) | exact Below.refl _ _)))).mono ?_; rintro e w1 ⟨rfl, hb⟩; obtain ⟨hc, hfz⟩ := bcell hb; have hz := hb.size; (try simp at hz); (try have hz0 : w.heap.size < w1.heap.size := by omega); (try have hz1 : w.heap.size + 1 < w1.heap.size := by omega); (try have hz2 : w.heap.size + 2 < w1.heap.size := by omega); (try have hz3 : w.heap.size + 3 < w1.heap.size := by omega); (try have hcA := fun o => hc w.heap.size o (by first | omega | (simp; omega))); (try have hcB := fun o => hc (w.heap.size + 1) o (by first | omega | (simp; omega))); (try have hcGg := fun o => hc g o (by first | omega | (simp; omega))); (try have hfGg := fun o => hfz g o (by first | omega | (simp; omega))); (try have hzGg : g < w1.heap.size := by omega); (try have hcGgA := fun o => hc gA o (by first | omega | (simp; omega))); (try have hfGgA := fun o => hfz gA o (by first | omega | (simp; omega))); (try have hzGgA : gA < w1.heap.size := by omega); (try have hcGgB := fun o => hc gB o (by first | omega | (simp; omega))); (try have hfGgB := fun o => hfz gB o (by first | omega | (simp; omega))); (try have hzGgB : gB < w1.heap.size := by omega); (try have hcGgC := fun o => hc gC o (by first | omega | (simp; omega))); (try have hfGgC := fun o => hfz gC o (by first | omega | (simp; omega))); (try have hzGgC : gC < w1.heap.size := by omega); (try have hcGgD := fun o => hc gD o (by first | omega | (simp; omega))); (try have hfGgD := fun o => hfz gD o (by first | omega | (simp; omega))); (try have hzGgD : gD < w1.heap.size := by omega); (try have hcGgE := fun o => hc gE o (by first | omega | (simp; omega))); (try have hfGgE := fun o => hfz gE o (by first | omega | (simp; omega))); (try have hzGgE : gE < w1.heap.size := by omega); (try have hcGgF := fun o => hc gF o (by first | omega | (simp; omega))); (try have hfGgF := fun o => hfz gF o (by first | omega | (simp; omega))); (try have hzGgF : gF < w1.heap.size := by omega); (try have hcGgV := fun o => hc gV o (by first | omega | (simp; omega))); (try have hfGgV := fun o => hfz gV o (by first | omega | (simp; omega))); (try have hzGgV : gV < w1.heap.size := by omega))
    go_ret
    exact ⟨rfl, by (repeat' first | (with_reducible exact Below.refl _ _) | (with_reducible refine Below.setCell ?_ (by first | omega | (simp; done) | (simp; omega)) _) | (with_reducible refine Below.alloc ?_ (by first | omega | (simp; done) | (simp; omega)) _) | refine below_drewN ?_ _ | refine Below.drew ?_ | (refine below_thru (by assumption) ?_ (by first | omega | (simp; done) | (simp; omega))) | exact Below.refl _ _)⟩
  replace hl3 : (u.scheme).length ≤ 3000 := by omega
  have hwo := origin_wide u id ha0 (by omega) (by omega) (by omega) hp0
  have ha : ∀ W, Below w.heap.size w W → _ := fun W hW => origin_of u id W (hE.below hW) (by omega)
  have hr : ∀ W, Below w.heap.size w W → _ := fun W _ => ref4_of u id W (by omega)
  have ht : ∀ W, Below w.heap.size w W → _ := fun W hW => origin_text (Gl.originOf u id) W (hE.below hW) hwo
  have hu : ∀ W, Below w.heap.size w W → _ := fun W hW => ref4_text (Gl.originOf u id) W (hE.below hW) hwo
  clear hwo
  generalize Gl.originText (Gl.originOf u id) = tx at *
  generalize Gl.originOf u id = o at *
  replace ha := Lib.hid ha
  replace hr := Lib.hid hr
  replace ht := Lib.hid ht
  replace hu := Lib.hid hu
  go_enter Tryz.func3, Tryz.ntmps3
  go_upto_region 4 with (go_at_call 4; refine ( awake4 _ (hE.below (by (repeat' first | (with_reducible exact Below.refl _ _) | (with_reducible refine Below.setCell ?_ (by first | omega | (simp; done) | (simp; omega)) _) | (with_reducible refine Below.alloc ?_ (by first | omega | (simp; done) | (simp; omega)) _) | refine below_drewN ?_ _ | refine Below.drew ?_ | (refine below_thru (by assumption) ?_ (by first | omega | (simp; done) | (simp; omega))) | exact Below.refl _ _)))).mono ?_; rintro e w1 ⟨rfl, hb⟩; obtain ⟨hc, hfz⟩ := bcell hb; have hz := hb.size; (try simp at hz); (try have hz0 : w.heap.size < w1.heap.size := by omega); (try have hz1 : w.heap.size + 1 < w1.heap.size := by omega); (try have hz2 : w.heap.size + 2 < w1.heap.size := by omega); (try have hz3 : w.heap.size + 3 < w1.heap.size := by omega); (try have hcA := fun o => hc w.heap.size o (by first | omega | (simp; omega))); (try have hcB := fun o => hc (w.heap.size + 1) o (by first | omega | (simp; omega))); (try have hcGg := fun o => hc g o (by first | omega | (simp; omega))); (try have hfGg := fun o => hfz g o (by first | omega | (simp; omega))); (try have hzGg : g < w1.heap.size := by omega); (try have hcGgA := fun o => hc gA o (by first | omega | (simp; omega))); (try have hfGgA := fun o => hfz gA o (by first | omega | (simp; omega))); (try have hzGgA : gA < w1.heap.size := by omega); (try have hcGgB := fun o => hc gB o (by first | omega | (simp; omega))); (try have hfGgB := fun o => hfz gB o (by first | omega | (simp; omega))); (try have hzGgB : gB < w1.heap.size := by omega); (try have hcGgC := fun o => hc gC o (by first | omega | (simp; omega))); (try have hfGgC := fun o => hfz gC o (by first | omega | (simp; omega))); (try have hzGgC : gC < w1.heap.size := by omega); (try have hcGgD := fun o => hc gD o (by first | omega | (simp; omega))); (try have hfGgD := fun o => hfz gD o (by first | omega | (simp; omega))); (try have hzGgD : gD < w1.heap.size := by omega); (try have hcGgE := fun o => hc gE o (by first | omega | (simp; omega))); (try have hfGgE := fun o => hfz gE o (by first | omega | (simp; omega))); (try have hzGgE : gE < w1.heap.size := by omega); (try have hcGgF := fun o => hc gF o (by first | omega | (simp; omega))); (try have hfGgF := fun o => hfz gF o (by first | omega | (simp; omega))); (try have hzGgF : gF < w1.heap.size := by omega); (try have hcGgV := fun o => hc gV o (by first | omega | (simp; omega))); (try have hfGgV := fun o => hfz gV o (by first | omega | (simp; omega))); (try have hzGgV : gV < w1.heap.size := by omega))
  go_cut [6] from 8 (fun p w' => ∃ gA, p = .pointer (some ⟨gA, 0, none⟩) ∧ w.heap.size + 1 ≤ gA ∧ Below w.heap.size w w' ∧ Blk w' w.heap.size 26 #[(Value.string ⟨((u).scheme).toArray⟩), (Value.string ⟨(((u).host).name).toArray⟩), (Value.bool ((u).host).v4), (Value.int .u32 (((u).host).addr : Int)), (Value.int .i64 (u).port), (Value.string ⟨((u).path).toArray⟩), (Value.bool (u).hasQuery), (Value.string ⟨((u).query).toArray⟩), (Value.string ⟨((u).rest).toArray⟩)] ∧ Blk w' gA 29 #[(.bool o.opaq), (.int .i64 o.id), (Value.string ⟨(o.scheme).toArray⟩), (Value.string ⟨((o.host).name).toArray⟩), (Value.bool (o.host).v4), (Value.int .u32 ((o.host).addr : Int)), (.int .i64 o.port)])
  case first =>
    go_wp2_with (go_at_call 5; refine ( ha.out _ (by (repeat' first | (with_reducible exact Below.refl _ _) | (with_reducible refine Below.setCell ?_ (by first | omega | (simp; done) | (simp; omega)) _) | (with_reducible refine Below.alloc ?_ (by first | omega | (simp; done) | (simp; omega)) _) | refine below_drewN ?_ _ | refine Below.drew ?_ | (refine below_thru (by assumption) ?_ (by first | omega | (simp; done) | (simp; omega))) | exact Below.refl _ _))).mono ?_; rintro e w1 ⟨rfl, hb⟩; obtain ⟨hc, hfz⟩ := bcell hb; have hz := hb.size; (try simp at hz); (try have hz0 : w.heap.size < w1.heap.size := by omega); (try have hz1 : w.heap.size + 1 < w1.heap.size := by omega); (try have hz2 : w.heap.size + 2 < w1.heap.size := by omega); (try have hz3 : w.heap.size + 3 < w1.heap.size := by omega); (try have hcA := fun o => hc w.heap.size o (by first | omega | (simp; omega))); (try have hcB := fun o => hc (w.heap.size + 1) o (by first | omega | (simp; omega))); (try have hcGg := fun o => hc g o (by first | omega | (simp; omega))); (try have hfGg := fun o => hfz g o (by first | omega | (simp; omega))); (try have hzGg : g < w1.heap.size := by omega); (try have hcGgA := fun o => hc gA o (by first | omega | (simp; omega))); (try have hfGgA := fun o => hfz gA o (by first | omega | (simp; omega))); (try have hzGgA : gA < w1.heap.size := by omega); (try have hcGgB := fun o => hc gB o (by first | omega | (simp; omega))); (try have hfGgB := fun o => hfz gB o (by first | omega | (simp; omega))); (try have hzGgB : gB < w1.heap.size := by omega); (try have hcGgC := fun o => hc gC o (by first | omega | (simp; omega))); (try have hfGgC := fun o => hfz gC o (by first | omega | (simp; omega))); (try have hzGgC : gC < w1.heap.size := by omega); (try have hcGgD := fun o => hc gD o (by first | omega | (simp; omega))); (try have hfGgD := fun o => hfz gD o (by first | omega | (simp; omega))); (try have hzGgD : gD < w1.heap.size := by omega); (try have hcGgE := fun o => hc gE o (by first | omega | (simp; omega))); (try have hfGgE := fun o => hfz gE o (by first | omega | (simp; omega))); (try have hzGgE : gE < w1.heap.size := by omega); (try have hcGgF := fun o => hc gF o (by first | omega | (simp; omega))); (try have hfGgF := fun o => hfz gF o (by first | omega | (simp; omega))); (try have hzGgF : gF < w1.heap.size := by omega); (try have hcGgV := fun o => hc gV o (by first | omega | (simp; omega))); (try have hfGgV := fun o => hfz gV o (by first | omega | (simp; omega))); (try have hzGgV : gV < w1.heap.size := by omega))
    go_meet
    case rel => exact ⟨_, rfl, by first | omega | (simp; omega), by (repeat' first | (with_reducible exact Below.refl _ _) | (with_reducible refine Below.setCell ?_ (by first | omega | (simp; done) | (simp; omega)) _) | (with_reducible refine Below.alloc ?_ (by first | omega | (simp; done) | (simp; omega)) _) | refine below_drewN ?_ _ | refine Below.drew ?_ | (refine below_thru (by assumption) ?_ (by first | omega | (simp; done) | (simp; omega))) | exact Below.refl _ _), by (repeat' first | (with_reducible assumption) | (with_reducible exact Blk.new _ _ _) | (with_reducible refine Blk.drew_ ?_) | (with_reducible refine Blk.alloc ?_ _) | (refine Blk.below ?_ (by assumption) (by first | omega | (simp; done) | (simp; omega)))), by (repeat' first | (with_reducible assumption) | (with_reducible exact Blk.new _ _ _) | (with_reducible refine Blk.drew_ ?_) | (with_reducible refine Blk.alloc ?_ _) | (refine Blk.below ?_ (by assumption) (by first | omega | (simp; done) | (simp; omega))))⟩
  case rest =>
    obtain ⟨gA, rfl, hgA, hw, hBU, hBA⟩ := hcut
    have hUl := hBU.lt
    have hUc := hBU.cell
    have hUf := hBU.frozen
    have hAl := hBA.lt
    have hAc := hBA.cell
    have hAf := hBA.frozen
    go_upto_region 5 with fail
    go_cut [7] from 8 (fun p w' => ∃ gB, p = .pointer (some ⟨gB, 0, none⟩) ∧ w.heap.size + 1 ≤ gB ∧ gA ≠ gB ∧ Below w.heap.size w w' ∧ Blk w' w.heap.size 26 #[(Value.string ⟨((u).scheme).toArray⟩), (Value.string ⟨(((u).host).name).toArray⟩), (Value.bool ((u).host).v4), (Value.int .u32 (((u).host).addr : Int)), (Value.int .i64 (u).port), (Value.string ⟨((u).path).toArray⟩), (Value.bool (u).hasQuery), (Value.string ⟨((u).query).toArray⟩), (Value.string ⟨((u).rest).toArray⟩)] ∧ Blk w' gA 29 #[(.bool o.opaq), (.int .i64 o.id), (Value.string ⟨(o.scheme).toArray⟩), (Value.string ⟨((o.host).name).toArray⟩), (Value.bool (o.host).v4), (Value.int .u32 ((o.host).addr : Int)), (.int .i64 o.port)] ∧ Blk w' gB 29 #[(.bool o.opaq), (.int .i64 o.id), (Value.string ⟨(o.scheme).toArray⟩), (Value.string ⟨((o.host).name).toArray⟩), (Value.bool (o.host).v4), (Value.int .u32 ((o.host).addr : Int)), (.int .i64 o.port)])
    case first =>
      have hUl := hBU.lt
      have hUc := hBU.cell
      have hUf := hBU.frozen
      have hAl := hBA.lt
      have hAc := hBA.cell
      have hAf := hBA.frozen
      go_wp2_with (go_at_call 6; refine ( hr.out _ (by (repeat' first | (with_reducible exact Below.refl _ _) | (with_reducible refine Below.setCell ?_ (by first | omega | (simp; done) | (simp; omega)) _) | (with_reducible refine Below.alloc ?_ (by first | omega | (simp; done) | (simp; omega)) _) | refine below_drewN ?_ _ | refine Below.drew ?_ | (refine below_thru (by assumption) ?_ (by first | omega | (simp; done) | (simp; omega))) | exact Below.refl _ _))).mono ?_; rintro e w1 ⟨rfl, hb⟩; obtain ⟨hc, hfz⟩ := bcell hb; have hz := hb.size; (try simp at hz); (try have hz0 : w.heap.size < w1.heap.size := by omega); (try have hz1 : w.heap.size + 1 < w1.heap.size := by omega); (try have hz2 : w.heap.size + 2 < w1.heap.size := by omega); (try have hz3 : w.heap.size + 3 < w1.heap.size := by omega); (try have hcA := fun o => hc w.heap.size o (by first | omega | (simp; omega))); (try have hcB := fun o => hc (w.heap.size + 1) o (by first | omega | (simp; omega))); (try have hcGg := fun o => hc g o (by first | omega | (simp; omega))); (try have hfGg := fun o => hfz g o (by first | omega | (simp; omega))); (try have hzGg : g < w1.heap.size := by omega); (try have hcGgA := fun o => hc gA o (by first | omega | (simp; omega))); (try have hfGgA := fun o => hfz gA o (by first | omega | (simp; omega))); (try have hzGgA : gA < w1.heap.size := by omega); (try have hcGgB := fun o => hc gB o (by first | omega | (simp; omega))); (try have hfGgB := fun o => hfz gB o (by first | omega | (simp; omega))); (try have hzGgB : gB < w1.heap.size := by omega); (try have hcGgC := fun o => hc gC o (by first | omega | (simp; omega))); (try have hfGgC := fun o => hfz gC o (by first | omega | (simp; omega))); (try have hzGgC : gC < w1.heap.size := by omega); (try have hcGgD := fun o => hc gD o (by first | omega | (simp; omega))); (try have hfGgD := fun o => hfz gD o (by first | omega | (simp; omega))); (try have hzGgD : gD < w1.heap.size := by omega); (try have hcGgE := fun o => hc gE o (by first | omega | (simp; omega))); (try have hfGgE := fun o => hfz gE o (by first | omega | (simp; omega))); (try have hzGgE : gE < w1.heap.size := by omega); (try have hcGgF := fun o => hc gF o (by first | omega | (simp; omega))); (try have hfGgF := fun o => hfz gF o (by first | omega | (simp; omega))); (try have hzGgF : gF < w1.heap.size := by omega); (try have hcGgV := fun o => hc gV o (by first | omega | (simp; omega))); (try have hfGgV := fun o => hfz gV o (by first | omega | (simp; omega))); (try have hzGgV : gV < w1.heap.size := by omega))
      go_meet
      case rel => exact ⟨_, rfl, by first | omega | (simp; omega), by first | omega | (simp; omega), by (repeat' first | (with_reducible exact Below.refl _ _) | (with_reducible refine Below.setCell ?_ (by first | omega | (simp; done) | (simp; omega)) _) | (with_reducible refine Below.alloc ?_ (by first | omega | (simp; done) | (simp; omega)) _) | refine below_drewN ?_ _ | refine Below.drew ?_ | (refine below_thru (by assumption) ?_ (by first | omega | (simp; done) | (simp; omega))) | exact Below.refl _ _), by (repeat' first | (with_reducible assumption) | (with_reducible exact Blk.new _ _ _) | (with_reducible refine Blk.drew_ ?_) | (with_reducible refine Blk.alloc ?_ _) | (refine Blk.below ?_ (by assumption) (by first | omega | (simp; done) | (simp; omega)))), by (repeat' first | (with_reducible assumption) | (with_reducible exact Blk.new _ _ _) | (with_reducible refine Blk.drew_ ?_) | (with_reducible refine Blk.alloc ?_ _) | (refine Blk.below ?_ (by assumption) (by first | omega | (simp; done) | (simp; omega)))), by (repeat' first | (with_reducible assumption) | (with_reducible exact Blk.new _ _ _) | (with_reducible refine Blk.drew_ ?_) | (with_reducible refine Blk.alloc ?_ _) | (refine Blk.below ?_ (by assumption) (by first | omega | (simp; done) | (simp; omega))))⟩
    case rest =>
      clear hw hBU hBA
      obtain ⟨gB, rfl, hgB, hnAB, hw, hBU, hBA, hBB⟩ := hcut
      have hUl := hBU.lt
      have hUc := hBU.cell
      have hUf := hBU.frozen
      have hAl := hBA.lt
      have hAc := hBA.cell
      have hAf := hBA.frozen
      have hBl := hBB.lt
      have hBc := hBB.cell
      have hBf := hBB.frozen
      go_wp2_with fail
      go_region_held3 (fun W => Below w.heap.size w W ∧ w.heap.size < W.heap.size ∧ gA < W.heap.size ∧ gB < W.heap.size ∧ (∀ n0, W.cell? ⟨w.heap.size, n0, none⟩ = (#[(Value.string ⟨((u).scheme).toArray⟩), (Value.string ⟨(((u).host).name).toArray⟩), (Value.bool ((u).host).v4), (Value.int .u32 (((u).host).addr : Int)), (Value.int .i64 (u).port), (Value.string ⟨((u).path).toArray⟩), (Value.bool (u).hasQuery), (Value.string ⟨((u).query).toArray⟩), (Value.string ⟨((u).rest).toArray⟩)] : Array Value)[n0]?) ∧ (∀ n0, W.cell? ⟨gA, n0, none⟩ = (#[(.bool o.opaq), (.int .i64 o.id), (Value.string ⟨(o.scheme).toArray⟩), (Value.string ⟨((o.host).name).toArray⟩), (Value.bool (o.host).v4), (Value.int .u32 ((o.host).addr : Int)), (.int .i64 o.port)] : Array Value)[n0]?) ∧ (∀ n0, W.cell? ⟨gB, n0, none⟩ = (#[(.bool o.opaq), (.int .i64 o.id), (Value.string ⟨(o.scheme).toArray⟩), (Value.string ⟨((o.host).name).toArray⟩), (Value.bool (o.host).v4), (Value.int .u32 ((o.host).addr : Int)), (.int .i64 o.port)] : Array Value)[n0]?)) ((refine ⟨by (repeat' first | (with_reducible exact Below.refl _ _) | (with_reducible refine Below.setCell ?_ (by first | omega | (simp; done) | (simp; omega)) _) | (with_reducible refine Below.alloc ?_ (by first | omega | (simp; done) | (simp; omega)) _) | refine below_drewN ?_ _ | refine Below.drew ?_ | (refine below_thru (by assumption) ?_ (by first | omega | (simp; done) | (simp; omega))) | exact Below.refl _ _), ?_⟩; simp [*]))
        (first | (go_at_call 7; refine ( ht.out _ (by (repeat' first | (with_reducible exact Below.refl _ _) | (with_reducible refine Below.setCell ?_ (by first | omega | (simp; done) | (simp; omega)) _) | (with_reducible refine Below.alloc ?_ (by first | omega | (simp; done) | (simp; omega)) _) | refine below_drewN ?_ _ | refine Below.drew ?_ | (refine below_thru (by assumption) ?_ (by first | omega | (simp; done) | (simp; omega))) | exact Below.refl _ _))).mono ?_; rintro e w1 ⟨rfl, hb⟩; obtain ⟨hc, hfz⟩ := bcell hb; have hz := hb.size; (try simp at hz); (try have hz0 : w.heap.size < w1.heap.size := by omega); (try have hz1 : w.heap.size + 1 < w1.heap.size := by omega); (try have hz2 : w.heap.size + 2 < w1.heap.size := by omega); (try have hz3 : w.heap.size + 3 < w1.heap.size := by omega); (try have hcA := fun o => hc w.heap.size o (by first | omega | (simp; omega))); (try have hcB := fun o => hc (w.heap.size + 1) o (by first | omega | (simp; omega))); (try have hcGg := fun o => hc g o (by first | omega | (simp; omega))); (try have hfGg := fun o => hfz g o (by first | omega | (simp; omega))); (try have hzGg : g < w1.heap.size := by omega); (try have hcGgA := fun o => hc gA o (by first | omega | (simp; omega))); (try have hfGgA := fun o => hfz gA o (by first | omega | (simp; omega))); (try have hzGgA : gA < w1.heap.size := by omega); (try have hcGgB := fun o => hc gB o (by first | omega | (simp; omega))); (try have hfGgB := fun o => hfz gB o (by first | omega | (simp; omega))); (try have hzGgB : gB < w1.heap.size := by omega); (try have hcGgC := fun o => hc gC o (by first | omega | (simp; omega))); (try have hfGgC := fun o => hfz gC o (by first | omega | (simp; omega))); (try have hzGgC : gC < w1.heap.size := by omega); (try have hcGgD := fun o => hc gD o (by first | omega | (simp; omega))); (try have hfGgD := fun o => hfz gD o (by first | omega | (simp; omega))); (try have hzGgD : gD < w1.heap.size := by omega); (try have hcGgE := fun o => hc gE o (by first | omega | (simp; omega))); (try have hfGgE := fun o => hfz gE o (by first | omega | (simp; omega))); (try have hzGgE : gE < w1.heap.size := by omega); (try have hcGgF := fun o => hc gF o (by first | omega | (simp; omega))); (try have hfGgF := fun o => hfz gF o (by first | omega | (simp; omega))); (try have hzGgF : gF < w1.heap.size := by omega); (try have hcGgV := fun o => hc gV o (by first | omega | (simp; omega))); (try have hfGgV := fun o => hfz gV o (by first | omega | (simp; omega))); (try have hzGgV : gV < w1.heap.size := by omega)) | (go_at_call 8; refine ( hu.out _ (by (repeat' first | (with_reducible exact Below.refl _ _) | (with_reducible refine Below.setCell ?_ (by first | omega | (simp; done) | (simp; omega)) _) | (with_reducible refine Below.alloc ?_ (by first | omega | (simp; done) | (simp; omega)) _) | refine below_drewN ?_ _ | refine Below.drew ?_ | (refine below_thru (by assumption) ?_ (by first | omega | (simp; done) | (simp; omega))) | exact Below.refl _ _))).mono ?_; rintro e w1 ⟨rfl, hb⟩; obtain ⟨hc, hfz⟩ := bcell hb; have hz := hb.size; (try simp at hz); (try have hz0 : w.heap.size < w1.heap.size := by omega); (try have hz1 : w.heap.size + 1 < w1.heap.size := by omega); (try have hz2 : w.heap.size + 2 < w1.heap.size := by omega); (try have hz3 : w.heap.size + 3 < w1.heap.size := by omega); (try have hcA := fun o => hc w.heap.size o (by first | omega | (simp; omega))); (try have hcB := fun o => hc (w.heap.size + 1) o (by first | omega | (simp; omega))); (try have hcGg := fun o => hc g o (by first | omega | (simp; omega))); (try have hfGg := fun o => hfz g o (by first | omega | (simp; omega))); (try have hzGg : g < w1.heap.size := by omega); (try have hcGgA := fun o => hc gA o (by first | omega | (simp; omega))); (try have hfGgA := fun o => hfz gA o (by first | omega | (simp; omega))); (try have hzGgA : gA < w1.heap.size := by omega); (try have hcGgB := fun o => hc gB o (by first | omega | (simp; omega))); (try have hfGgB := fun o => hfz gB o (by first | omega | (simp; omega))); (try have hzGgB : gB < w1.heap.size := by omega); (try have hcGgC := fun o => hc gC o (by first | omega | (simp; omega))); (try have hfGgC := fun o => hfz gC o (by first | omega | (simp; omega))); (try have hzGgC : gC < w1.heap.size := by omega); (try have hcGgD := fun o => hc gD o (by first | omega | (simp; omega))); (try have hfGgD := fun o => hfz gD o (by first | omega | (simp; omega))); (try have hzGgD : gD < w1.heap.size := by omega); (try have hcGgE := fun o => hc gE o (by first | omega | (simp; omega))); (try have hfGgE := fun o => hfz gE o (by first | omega | (simp; omega))); (try have hzGgE : gE < w1.heap.size := by omega); (try have hcGgF := fun o => hc gF o (by first | omega | (simp; omega))); (try have hfGgF := fun o => hfz gF o (by first | omega | (simp; omega))); (try have hzGgF : gF < w1.heap.size := by omega); (try have hcGgV := fun o => hc gV o (by first | omega | (simp; omega))); (try have hfGgV := fun o => hfz gV o (by first | omega | (simp; omega))); (try have hzGgV : gV < w1.heap.size := by omega)))
      all_goals (go_wp2_with fail)
      all_goals go_ret
      all_goals exact ⟨rfl, by (repeat' first | (with_reducible exact Below.refl _ _) | (with_reducible refine Below.setCell ?_ (by first | omega | (simp; done) | (simp; omega)) _) | (with_reducible refine Below.alloc ?_ (by first | omega | (simp; done) | (simp; omega)) _) | refine below_drewN ?_ _ | refine Below.drew ?_ | (refine below_thru (by assumption) ?_ (by first | omega | (simp; done) | (simp; omega))) | exact Below.refl _ _)⟩
end Go.Proofs.YthmgcnaoionmoaaGreatDoor
