/- The law UrlpQueries, walked. -/
import Derived.Test.YthmgcnaoionmoaaDoorAwake
import Derived.Test.YthmgcnaoionmoaaDoorEqs
import Derived.Test.YthmgcnaoionmoaaDoorPlain3b
namespace Go.Proofs.YthmgcnaoionmoaaDoor
open Go.RowKit
attribute [local irreducible] Calls

set_option maxHeartbeats 4000000 in
set_option maxRecDepth 100000 in
theorem law_queries (s q : List UInt8) (w : World) (hE : Env w) : Calls Tryd.prog 10 #[(Value.string ⟨(s).toArray⟩), (Value.string ⟨(q).toArray⟩)] w (Ret w (.bool true)) := by
  rcases Nat.lt_or_ge 900 s.length with hs | hs
  · go_enter Tryd.func10, Tryd.ntmps10
    go_wp2_with (go_at_call 19; refine ( awake _ (hE.below (by (repeat' first | (with_reducible exact Below.refl _ _) | (with_reducible refine Below.setCell ?_ (by first | omega | (simp; done) | (simp; omega)) _) | (with_reducible refine Below.alloc ?_ (by first | omega | (simp; done) | (simp; omega)) _) | refine below_drewN ?_ _ | refine Below.drew ?_ | (refine below_thru (by assumption) ?_ (by first | omega | (simp; done) | (simp; omega))) | exact Below.refl _ _)))).mono ?_; rintro e w1 ⟨rfl, hb⟩; obtain ⟨hc, hfz⟩ := bcell hb; have hz := hb.size; (try simp at hz); (try have hz0 : w.heap.size < w1.heap.size := by omega); (try have hz1 : w.heap.size + 1 < w1.heap.size := by omega); (try have hz2 : w.heap.size + 2 < w1.heap.size := by omega); (try have hz3 : w.heap.size + 3 < w1.heap.size := by omega); (try have hcA := fun o => hc w.heap.size o (by first | omega | (simp; omega))); (try have hcB := fun o => hc (w.heap.size + 1) o (by first | omega | (simp; omega))); (try have hcGg := fun o => hc g o (by first | omega | (simp; omega))); (try have hfGg := fun o => hfz g o (by first | omega | (simp; omega))); (try have hzGg : g < w1.heap.size := by omega); (try have hcGgA := fun o => hc gA o (by first | omega | (simp; omega))); (try have hfGgA := fun o => hfz gA o (by first | omega | (simp; omega))); (try have hzGgA : gA < w1.heap.size := by omega); (try have hcGgB := fun o => hc gB o (by first | omega | (simp; omega))); (try have hfGgB := fun o => hfz gB o (by first | omega | (simp; omega))); (try have hzGgB : gB < w1.heap.size := by omega); (try have hcGgV := fun o => hc gV o (by first | omega | (simp; omega))); (try have hfGgV := fun o => hfz gV o (by first | omega | (simp; omega))); (try have hzGgV : gV < w1.heap.size := by omega))
    go_ret
    exact ⟨rfl, by (repeat' first | (with_reducible exact Below.refl _ _) | (with_reducible refine Below.setCell ?_ (by first | omega | (simp; done) | (simp; omega)) _) | (with_reducible refine Below.alloc ?_ (by first | omega | (simp; done) | (simp; omega)) _) | refine below_drewN ?_ _ | refine Below.drew ?_ | (refine below_thru (by assumption) ?_ (by first | omega | (simp; done) | (simp; omega))) | exact Below.refl _ _)⟩
  rcases Nat.lt_or_ge 900 q.length with hs2 | hs2
  · go_enter Tryd.func10, Tryd.ntmps10
    go_wp2_with (go_at_call 19; refine ( awake _ (hE.below (by (repeat' first | (with_reducible exact Below.refl _ _) | (with_reducible refine Below.setCell ?_ (by first | omega | (simp; done) | (simp; omega)) _) | (with_reducible refine Below.alloc ?_ (by first | omega | (simp; done) | (simp; omega)) _) | refine below_drewN ?_ _ | refine Below.drew ?_ | (refine below_thru (by assumption) ?_ (by first | omega | (simp; done) | (simp; omega))) | exact Below.refl _ _)))).mono ?_; rintro e w1 ⟨rfl, hb⟩; obtain ⟨hc, hfz⟩ := bcell hb; have hz := hb.size; (try simp at hz); (try have hz0 : w.heap.size < w1.heap.size := by omega); (try have hz1 : w.heap.size + 1 < w1.heap.size := by omega); (try have hz2 : w.heap.size + 2 < w1.heap.size := by omega); (try have hz3 : w.heap.size + 3 < w1.heap.size := by omega); (try have hcA := fun o => hc w.heap.size o (by first | omega | (simp; omega))); (try have hcB := fun o => hc (w.heap.size + 1) o (by first | omega | (simp; omega))); (try have hcGg := fun o => hc g o (by first | omega | (simp; omega))); (try have hfGg := fun o => hfz g o (by first | omega | (simp; omega))); (try have hzGg : g < w1.heap.size := by omega); (try have hcGgA := fun o => hc gA o (by first | omega | (simp; omega))); (try have hfGgA := fun o => hfz gA o (by first | omega | (simp; omega))); (try have hzGgA : gA < w1.heap.size := by omega); (try have hcGgB := fun o => hc gB o (by first | omega | (simp; omega))); (try have hfGgB := fun o => hfz gB o (by first | omega | (simp; omega))); (try have hzGgB : gB < w1.heap.size := by omega); (try have hcGgV := fun o => hc gV o (by first | omega | (simp; omega))); (try have hfGgV := fun o => hfz gV o (by first | omega | (simp; omega))); (try have hzGgV : gV < w1.heap.size := by omega))
    go_ret
    exact ⟨rfl, by (repeat' first | (with_reducible exact Below.refl _ _) | (with_reducible refine Below.setCell ?_ (by first | omega | (simp; done) | (simp; omega)) _) | (with_reducible refine Below.alloc ?_ (by first | omega | (simp; done) | (simp; omega)) _) | refine below_drewN ?_ _ | refine Below.drew ?_ | (refine below_thru (by assumption) ?_ (by first | omega | (simp; done) | (simp; omega))) | exact Below.refl _ _)⟩
  have hp : ∀ W, Below w.heap.size w W → Calls Tryd.prog 20 #[(Value.string ⟨(s).toArray⟩)] W (Ret W (.tuple #[(Value.agg #[(Value.string ⟨(((Gl.parse s).1).scheme).toArray⟩), (Value.string ⟨((((Gl.parse s).1).host).name).toArray⟩), (Value.bool (((Gl.parse s).1).host).v4), (Value.int .u32 ((((Gl.parse s).1).host).addr : Int)), (Value.int .i64 ((Gl.parse s).1).port), (Value.string ⟨(((Gl.parse s).1).path).toArray⟩), (Value.bool ((Gl.parse s).1).hasQuery), (Value.string ⟨(((Gl.parse s).1).query).toArray⟩), (Value.string ⟨(((Gl.parse s).1).rest).toArray⟩)]), .int .i64 (Gl.parse s).2])) := fun W hW => urlp_parse s W (by omega) (hE.below hW)
  by_cases hg : (Gl.parse s).2 = 0 ∧ Gl.isNet (Gl.parse s).1 = true ∧ (Gl.parse s).1.hasQuery = false
  · obtain ⟨h0, hnt, hq⟩ := hg
    obtain ⟨hN, hl⟩ := norm_of s h0 hnt
    have hpl : (∀ c ∈ q, badC c = false ∧ c ≠ 35) → _ := fun h => plain_queries s q hs hs2 h h0 hnt hq
    have hpq := urlp_parse (Gl.urlText (Gl.parse s).1 ++ [63] ++ q)
    generalize Gl.parse s = p at *
    obtain ⟨u, er⟩ := p
    simp only at hp h0 hnt hq hN hl hpl hpq
    subst h0
    have hlen := hl
    rw [text_parts u hnt] at hlen
    unfold tailT at hlen
    simp only [List.length_append, List.length_cons] at hlen
    obtain ⟨hn0, hhn⟩ := hN.host
    obtain ⟨-, hha, -, -⟩ := host_back hn0 _ hhn
    have hpo : u.port ≤ 9223372036854775807 := by
      rcases hN.port with h | ⟨⟨x, hx⟩, _⟩
      · omega
      · have := number_range (by decide) hx; omega
    have hnm : u.host.name.length ≤ 1000000 := (by have := hN.name_len; omega)
    have ht : ∀ W, Below w.heap.size w W → Calls Tryd.prog 24 #[(Value.agg #[(Value.string ⟨((u).scheme).toArray⟩), (Value.string ⟨(((u).host).name).toArray⟩), (Value.bool ((u).host).v4), (Value.int .u32 (((u).host).addr : Int)), (Value.int .i64 (u).port), (Value.string ⟨((u).path).toArray⟩), (Value.bool (u).hasQuery), (Value.string ⟨((u).query).toArray⟩), (Value.string ⟨((u).rest).toArray⟩)])] W (Ret W ((Value.string ⟨(Gl.urlText u).toArray⟩))) := fun W hW => urlp_text u W (hE.below hW) hha hpo (by omega) (by rw [hN.rest]; simp) (by omega) (by rw [hN.query hq]; simp) hnm
    generalize Gl.urlText u = t at *
    obtain ⟨vu, hvu⟩ : ∃ vu, vu = ({ u with hasQuery := true, query := q } : Gl.URL) := ⟨_, rfl⟩
    have hv0 : (∀ c ∈ q, badC c = false ∧ c ≠ 35) → ∀ W, Below w.heap.size w W → Calls Tryd.prog 20 #[(Value.string ⟨(t ++ 63 :: q).toArray⟩)] W (Ret W (.tuple #[(Value.agg #[(Value.string ⟨((vu).scheme).toArray⟩), (Value.string ⟨(((vu).host).name).toArray⟩), (Value.bool ((vu).host).v4), (Value.int .u32 (((vu).host).addr : Int)), (Value.int .i64 (vu).port), (Value.string ⟨((vu).path).toArray⟩), (Value.bool (vu).hasQuery), (Value.string ⟨((vu).query).toArray⟩), (Value.string ⟨((vu).rest).toArray⟩)]), .int .i64 0])) := fun h W hW => by
      have := hpq W (by simp; omega) (hE.below hW)
      rw [hpl h, ← hvu] at this
      rw [show t ++ 63 :: q = t ++ [63] ++ q by simp]
      exact this
    have hn : ∀ W, Calls Tryd.prog 26 #[(Value.agg #[(Value.string ⟨((u).scheme).toArray⟩), (Value.string ⟨(((u).host).name).toArray⟩), (Value.bool ((u).host).v4), (Value.int .u32 (((u).host).addr : Int)), (Value.int .i64 (u).port), (Value.string ⟨((u).path).toArray⟩), (Value.bool (u).hasQuery), (Value.string ⟨((u).query).toArray⟩), (Value.string ⟨((u).rest).toArray⟩)])] W (Ret W (.bool true)) := fun W => hnt ▸ urlp_net u W
    simp only [hq] at ht
    clear hpl hpq hhn hlen hha hpo hnm hnt hN
    replace hvu := Lib.hid hvu
    replace hv0 := Lib.hid hv0
    replace hp := Lib.hid hp
    replace ht := Lib.hid ht
    replace hq := Lib.hid hq
    replace hn := Lib.hid hn
    go_enter Tryd.func10, Tryd.ntmps10
    go_wp2_with (go_at_call 19; refine ( awake _ (hE.below (by (repeat' first | (with_reducible exact Below.refl _ _) | (with_reducible refine Below.setCell ?_ (by first | omega | (simp; done) | (simp; omega)) _) | (with_reducible refine Below.alloc ?_ (by first | omega | (simp; done) | (simp; omega)) _) | refine below_drewN ?_ _ | refine Below.drew ?_ | (refine below_thru (by assumption) ?_ (by first | omega | (simp; done) | (simp; omega))) | exact Below.refl _ _)))).mono ?_; rintro e w1 ⟨rfl, hb⟩; obtain ⟨hc, hfz⟩ := bcell hb; have hz := hb.size; (try simp at hz); (try have hz0 : w.heap.size < w1.heap.size := by omega); (try have hz1 : w.heap.size + 1 < w1.heap.size := by omega); (try have hz2 : w.heap.size + 2 < w1.heap.size := by omega); (try have hz3 : w.heap.size + 3 < w1.heap.size := by omega); (try have hcA := fun o => hc w.heap.size o (by first | omega | (simp; omega))); (try have hcB := fun o => hc (w.heap.size + 1) o (by first | omega | (simp; omega))); (try have hcGg := fun o => hc g o (by first | omega | (simp; omega))); (try have hfGg := fun o => hfz g o (by first | omega | (simp; omega))); (try have hzGg : g < w1.heap.size := by omega); (try have hcGgA := fun o => hc gA o (by first | omega | (simp; omega))); (try have hfGgA := fun o => hfz gA o (by first | omega | (simp; omega))); (try have hzGgA : gA < w1.heap.size := by omega); (try have hcGgB := fun o => hc gB o (by first | omega | (simp; omega))); (try have hfGgB := fun o => hfz gB o (by first | omega | (simp; omega))); (try have hzGgB : gB < w1.heap.size := by omega); (try have hcGgV := fun o => hc gV o (by first | omega | (simp; omega))); (try have hfGgV := fun o => hfz gV o (by first | omega | (simp; omega))); (try have hzGgV : gV < w1.heap.size := by omega))
    go_loop [6] (fun i => ∃ k : Nat, k ≤ q.length ∧ i = .int .i64 k ∧ Hid (∀ c ∈ q.take k, badC c = false ∧ c ≠ 35)) (fun i => q.length - (intOf i).toNat)
    case atStart => exact ⟨0, Nat.zero_le _, rfl, Lib.hid (by simp)⟩
    case round =>
      obtain ⟨k, hk, rfl, hr⟩ := hrel
      by_cases hlt : k < q.length
      · have h256 := (q[k]).toNat_lt
        by_cases hx : (q[k].toNat : Int) < 33
        · go_wp2_with fail
          go_ret
          exact ⟨rfl, by (repeat' first | (with_reducible exact Below.refl _ _) | (with_reducible refine Below.setCell ?_ (by first | omega | (simp; done) | (simp; omega)) _) | (with_reducible refine Below.alloc ?_ (by first | omega | (simp; done) | (simp; omega)) _) | refine below_drewN ?_ _ | refine Below.drew ?_ | (refine below_thru (by assumption) ?_ (by first | omega | (simp; done) | (simp; omega))) | exact Below.refl _ _)⟩
        by_cases hy : 126 < (q[k].toNat : Int)
        · go_wp2_with fail
          go_ret
          exact ⟨rfl, by (repeat' first | (with_reducible exact Below.refl _ _) | (with_reducible refine Below.setCell ?_ (by first | omega | (simp; done) | (simp; omega)) _) | (with_reducible refine Below.alloc ?_ (by first | omega | (simp; done) | (simp; omega)) _) | refine below_drewN ?_ _ | refine Below.drew ?_ | (refine below_thru (by assumption) ?_ (by first | omega | (simp; done) | (simp; omega))) | exact Below.refl _ _)⟩
        by_cases z35 : q[k] = 35
        · have z35' : ((q[k].toNat : Int) == 35) = true := by rw [z35]; rfl
          clear z35
          go_wp2_with fail
          go_ret
          exact ⟨rfl, by (repeat' first | (with_reducible exact Below.refl _ _) | (with_reducible refine Below.setCell ?_ (by first | omega | (simp; done) | (simp; omega)) _) | (with_reducible refine Below.alloc ?_ (by first | omega | (simp; done) | (simp; omega)) _) | refine below_drewN ?_ _ | refine Below.drew ?_ | (refine below_thru (by assumption) ?_ (by first | omega | (simp; done) | (simp; omega))) | exact Below.refl _ _)⟩
        have hf : Hid (∀ c ∈ q.take (k + 1), badC c = false ∧ c ≠ 35) := Lib.hid (by
          intro c hc
          rw [List.take_succ_eq_append_getElem hlt, List.mem_append] at hc
          rcases hc with hc | hc
          · exact hr.out c hc
          · obtain rfl : c = q[k] := by simpa using hc
            exact ⟨by unfold badC; simp; omega, z35⟩)
        have z35' : ((q[k].toNat : Int) == 35) = false := by
          rw [beq_eq_false_iff_ne]; intro h; exact z35 (by apply UInt8.toNat_inj.1; show q[k].toNat = 35; omega)
        clear z35
        go_wp2_with fail
        go_round
        case rel => exact ⟨k + 1, by omega, by go_num, hf⟩
        case measure => simp [intOf]; omega
      · have hall : ∀ c ∈ q, badC c = false ∧ c ≠ 35 := by
          have := hr.out
          rwa [List.take_of_length_le (by omega)] at this
        obtain rfl : k = q.length := by omega
        have hv := Lib.hid (hv0.out hall)
        clear hall hr hlt
        go_upto_region 9 with fail
        go_cut [7, 8] from 12 (fun p e w' => ∃ gA, p = .pointer (some ⟨gA, 0, none⟩) ∧ e = .int .i64 0 ∧ w.heap.size ≤ gA ∧ Below w.heap.size w w' ∧ Blk w' gA 27 #[(Value.string ⟨((u).scheme).toArray⟩), (Value.string ⟨(((u).host).name).toArray⟩), (Value.bool ((u).host).v4), (Value.int .u32 (((u).host).addr : Int)), (Value.int .i64 (u).port), (Value.string ⟨((u).path).toArray⟩), (Value.bool (u).hasQuery), (Value.string ⟨((u).query).toArray⟩), (Value.string ⟨((u).rest).toArray⟩)])
        case first =>
          go_wp2_with (go_at_call 20; refine ( hp.out _ (by (repeat' first | (with_reducible exact Below.refl _ _) | (with_reducible refine Below.setCell ?_ (by first | omega | (simp; done) | (simp; omega)) _) | (with_reducible refine Below.alloc ?_ (by first | omega | (simp; done) | (simp; omega)) _) | refine below_drewN ?_ _ | refine Below.drew ?_ | (refine below_thru (by assumption) ?_ (by first | omega | (simp; done) | (simp; omega))) | exact Below.refl _ _))).mono ?_; rintro e w1 ⟨rfl, hb⟩; obtain ⟨hc, hfz⟩ := bcell hb; have hz := hb.size; (try simp at hz); (try have hz0 : w.heap.size < w1.heap.size := by omega); (try have hz1 : w.heap.size + 1 < w1.heap.size := by omega); (try have hz2 : w.heap.size + 2 < w1.heap.size := by omega); (try have hz3 : w.heap.size + 3 < w1.heap.size := by omega); (try have hcA := fun o => hc w.heap.size o (by first | omega | (simp; omega))); (try have hcB := fun o => hc (w.heap.size + 1) o (by first | omega | (simp; omega))); (try have hcGg := fun o => hc g o (by first | omega | (simp; omega))); (try have hfGg := fun o => hfz g o (by first | omega | (simp; omega))); (try have hzGg : g < w1.heap.size := by omega); (try have hcGgA := fun o => hc gA o (by first | omega | (simp; omega))); (try have hfGgA := fun o => hfz gA o (by first | omega | (simp; omega))); (try have hzGgA : gA < w1.heap.size := by omega); (try have hcGgB := fun o => hc gB o (by first | omega | (simp; omega))); (try have hfGgB := fun o => hfz gB o (by first | omega | (simp; omega))); (try have hzGgB : gB < w1.heap.size := by omega); (try have hcGgV := fun o => hc gV o (by first | omega | (simp; omega))); (try have hfGgV := fun o => hfz gV o (by first | omega | (simp; omega))); (try have hzGgV : gV < w1.heap.size := by omega))
          go_meet
          case rel => exact ⟨_, rfl, rfl, by first | omega | (simp; omega), by (repeat' first | (with_reducible exact Below.refl _ _) | (with_reducible refine Below.setCell ?_ (by first | omega | (simp; done) | (simp; omega)) _) | (with_reducible refine Below.alloc ?_ (by first | omega | (simp; done) | (simp; omega)) _) | refine below_drewN ?_ _ | refine Below.drew ?_ | (refine below_thru (by assumption) ?_ (by first | omega | (simp; done) | (simp; omega))) | exact Below.refl _ _), by (repeat' first | (with_reducible assumption) | (with_reducible exact Blk.new _ _ _) | (with_reducible refine Blk.drew_ ?_) | (with_reducible refine Blk.alloc ?_ _) | (refine Blk.below ?_ (by assumption) (by first | omega | (simp; done) | (simp; omega))))⟩
        case rest =>
          obtain ⟨gA, rfl, rfl, hgA, hw, hBA⟩ := hcut
          go_upto_region 10 with fail
          go_cut [9] from 12 (fun p w' => p = .bool true ∧ Below w.heap.size w w' ∧ Blk w' gA 27 #[(Value.string ⟨((u).scheme).toArray⟩), (Value.string ⟨(((u).host).name).toArray⟩), (Value.bool ((u).host).v4), (Value.int .u32 (((u).host).addr : Int)), (Value.int .i64 (u).port), (Value.string ⟨((u).path).toArray⟩), (Value.bool (u).hasQuery), (Value.string ⟨((u).query).toArray⟩), (Value.string ⟨((u).rest).toArray⟩)])
          case first =>
            have hAl := hBA.lt
            have hAc := hBA.cell
            have hAf := hBA.frozen
            go_wp2_with (go_at_call 26; refine ( hn.out _).mono ?_; rintro e w1 ⟨rfl, hb⟩; obtain ⟨hc, hfz⟩ := bcell hb; have hz := hb.size; (try simp at hz); (try have hz0 : w.heap.size < w1.heap.size := by omega); (try have hz1 : w.heap.size + 1 < w1.heap.size := by omega); (try have hz2 : w.heap.size + 2 < w1.heap.size := by omega); (try have hz3 : w.heap.size + 3 < w1.heap.size := by omega); (try have hcA := fun o => hc w.heap.size o (by first | omega | (simp; omega))); (try have hcB := fun o => hc (w.heap.size + 1) o (by first | omega | (simp; omega))); (try have hcGg := fun o => hc g o (by first | omega | (simp; omega))); (try have hfGg := fun o => hfz g o (by first | omega | (simp; omega))); (try have hzGg : g < w1.heap.size := by omega); (try have hcGgA := fun o => hc gA o (by first | omega | (simp; omega))); (try have hfGgA := fun o => hfz gA o (by first | omega | (simp; omega))); (try have hzGgA : gA < w1.heap.size := by omega); (try have hcGgB := fun o => hc gB o (by first | omega | (simp; omega))); (try have hfGgB := fun o => hfz gB o (by first | omega | (simp; omega))); (try have hzGgB : gB < w1.heap.size := by omega); (try have hcGgV := fun o => hc gV o (by first | omega | (simp; omega))); (try have hfGgV := fun o => hfz gV o (by first | omega | (simp; omega))); (try have hzGgV : gV < w1.heap.size := by omega))
            go_meet
            case rel => exact ⟨rfl, by (repeat' first | (with_reducible exact Below.refl _ _) | (with_reducible refine Below.setCell ?_ (by first | omega | (simp; done) | (simp; omega)) _) | (with_reducible refine Below.alloc ?_ (by first | omega | (simp; done) | (simp; omega)) _) | refine below_drewN ?_ _ | refine Below.drew ?_ | (refine below_thru (by assumption) ?_ (by first | omega | (simp; done) | (simp; omega))) | exact Below.refl _ _), by (repeat' first | (with_reducible assumption) | (with_reducible exact Blk.new _ _ _) | (with_reducible refine Blk.drew_ ?_) | (with_reducible refine Blk.alloc ?_ _) | (refine Blk.below ?_ (by assumption) (by first | omega | (simp; done) | (simp; omega))))⟩
          case rest =>
            clear hw hBA
            obtain ⟨rfl, hw, hBA⟩ := hcut
            have hAl := hBA.lt
            have hAc := hBA.cell
            have hAf := hBA.frozen
            have q1 := hq.out
            go_upto_region 13 with fail
            go_cut [10, 11] from 12 (fun p e w' => ∃ gB, p = .pointer (some ⟨gB, 0, none⟩) ∧ e = .int .i64 0 ∧ w.heap.size ≤ gB ∧ gA ≠ gB ∧ Below w.heap.size w w' ∧ Blk w' gA 27 #[(Value.string ⟨((u).scheme).toArray⟩), (Value.string ⟨(((u).host).name).toArray⟩), (Value.bool ((u).host).v4), (Value.int .u32 (((u).host).addr : Int)), (Value.int .i64 (u).port), (Value.string ⟨((u).path).toArray⟩), (Value.bool (u).hasQuery), (Value.string ⟨((u).query).toArray⟩), (Value.string ⟨((u).rest).toArray⟩)] ∧ Blk w' gB 27 #[(Value.string ⟨((vu).scheme).toArray⟩), (Value.string ⟨(((vu).host).name).toArray⟩), (Value.bool ((vu).host).v4), (Value.int .u32 (((vu).host).addr : Int)), (Value.int .i64 (vu).port), (Value.string ⟨((vu).path).toArray⟩), (Value.bool (vu).hasQuery), (Value.string ⟨((vu).query).toArray⟩), (Value.string ⟨((vu).rest).toArray⟩)])
            case first =>
              have hAl := hBA.lt
              have hAc := hBA.cell
              have hAf := hBA.frozen
              go_wp2_with (first | (go_at_call 20; refine ( hv.out _ (by (repeat' first | (with_reducible exact Below.refl _ _) | (with_reducible refine Below.setCell ?_ (by first | omega | (simp; done) | (simp; omega)) _) | (with_reducible refine Below.alloc ?_ (by first | omega | (simp; done) | (simp; omega)) _) | refine below_drewN ?_ _ | refine Below.drew ?_ | (refine below_thru (by assumption) ?_ (by first | omega | (simp; done) | (simp; omega))) | exact Below.refl _ _))).mono ?_; rintro e w1 ⟨rfl, hb⟩; obtain ⟨hc, hfz⟩ := bcell hb; have hz := hb.size; (try simp at hz); (try have hz0 : w.heap.size < w1.heap.size := by omega); (try have hz1 : w.heap.size + 1 < w1.heap.size := by omega); (try have hz2 : w.heap.size + 2 < w1.heap.size := by omega); (try have hz3 : w.heap.size + 3 < w1.heap.size := by omega); (try have hcA := fun o => hc w.heap.size o (by first | omega | (simp; omega))); (try have hcB := fun o => hc (w.heap.size + 1) o (by first | omega | (simp; omega))); (try have hcGg := fun o => hc g o (by first | omega | (simp; omega))); (try have hfGg := fun o => hfz g o (by first | omega | (simp; omega))); (try have hzGg : g < w1.heap.size := by omega); (try have hcGgA := fun o => hc gA o (by first | omega | (simp; omega))); (try have hfGgA := fun o => hfz gA o (by first | omega | (simp; omega))); (try have hzGgA : gA < w1.heap.size := by omega); (try have hcGgB := fun o => hc gB o (by first | omega | (simp; omega))); (try have hfGgB := fun o => hfz gB o (by first | omega | (simp; omega))); (try have hzGgB : gB < w1.heap.size := by omega); (try have hcGgV := fun o => hc gV o (by first | omega | (simp; omega))); (try have hfGgV := fun o => hfz gV o (by first | omega | (simp; omega))); (try have hzGgV : gV < w1.heap.size := by omega)) | (go_at_call 24; refine ( ht.out _ (by (repeat' first | (with_reducible exact Below.refl _ _) | (with_reducible refine Below.setCell ?_ (by first | omega | (simp; done) | (simp; omega)) _) | (with_reducible refine Below.alloc ?_ (by first | omega | (simp; done) | (simp; omega)) _) | refine below_drewN ?_ _ | refine Below.drew ?_ | (refine below_thru (by assumption) ?_ (by first | omega | (simp; done) | (simp; omega))) | exact Below.refl _ _))).mono ?_; rintro e w1 ⟨rfl, hb⟩; obtain ⟨hc, hfz⟩ := bcell hb; have hz := hb.size; (try simp at hz); (try have hz0 : w.heap.size < w1.heap.size := by omega); (try have hz1 : w.heap.size + 1 < w1.heap.size := by omega); (try have hz2 : w.heap.size + 2 < w1.heap.size := by omega); (try have hz3 : w.heap.size + 3 < w1.heap.size := by omega); (try have hcA := fun o => hc w.heap.size o (by first | omega | (simp; omega))); (try have hcB := fun o => hc (w.heap.size + 1) o (by first | omega | (simp; omega))); (try have hcGg := fun o => hc g o (by first | omega | (simp; omega))); (try have hfGg := fun o => hfz g o (by first | omega | (simp; omega))); (try have hzGg : g < w1.heap.size := by omega); (try have hcGgA := fun o => hc gA o (by first | omega | (simp; omega))); (try have hfGgA := fun o => hfz gA o (by first | omega | (simp; omega))); (try have hzGgA : gA < w1.heap.size := by omega); (try have hcGgB := fun o => hc gB o (by first | omega | (simp; omega))); (try have hfGgB := fun o => hfz gB o (by first | omega | (simp; omega))); (try have hzGgB : gB < w1.heap.size := by omega); (try have hcGgV := fun o => hc gV o (by first | omega | (simp; omega))); (try have hfGgV := fun o => hfz gV o (by first | omega | (simp; omega))); (try have hzGgV : gV < w1.heap.size := by omega)))
              go_meet
              case rel => exact ⟨_, rfl, rfl, by first | omega | (simp; omega), by first | omega | (simp; omega), by (repeat' first | (with_reducible exact Below.refl _ _) | (with_reducible refine Below.setCell ?_ (by first | omega | (simp; done) | (simp; omega)) _) | (with_reducible refine Below.alloc ?_ (by first | omega | (simp; done) | (simp; omega)) _) | refine below_drewN ?_ _ | refine Below.drew ?_ | (refine below_thru (by assumption) ?_ (by first | omega | (simp; done) | (simp; omega))) | exact Below.refl _ _), by (repeat' first | (with_reducible assumption) | (with_reducible exact Blk.new _ _ _) | (with_reducible refine Blk.drew_ ?_) | (with_reducible refine Blk.alloc ?_ _) | (refine Blk.below ?_ (by assumption) (by first | omega | (simp; done) | (simp; omega)))), by (repeat' first | (with_reducible assumption) | (with_reducible exact Blk.new _ _ _) | (with_reducible refine Blk.drew_ ?_) | (with_reducible refine Blk.alloc ?_ _) | (refine Blk.below ?_ (by assumption) (by first | omega | (simp; done) | (simp; omega))))⟩
            case rest =>
              clear hw hBA
              obtain ⟨gB, rfl, rfl, hgB, hnAB, hw, hBA, hBB⟩ := hcut
              have hAl := hBA.lt
              have hAc := hBA.cell
              have hAf := hBA.frozen
              have hBl := hBB.lt
              have hBc := hBB.cell
              have hBf := hBB.frozen
              have hx := hvu.out
              subst hx
              go_wp2_with fail
              go_ret
              exact ⟨rfl, by (repeat' first | (with_reducible exact Below.refl _ _) | (with_reducible refine Below.setCell ?_ (by first | omega | (simp; done) | (simp; omega)) _) | (with_reducible refine Below.alloc ?_ (by first | omega | (simp; done) | (simp; omega)) _) | refine below_drewN ?_ _ | refine Below.drew ?_ | (refine below_thru (by assumption) ?_ (by first | omega | (simp; done) | (simp; omega))) | exact Below.refl _ _)⟩
  · have hbad : (Gl.parse s).2 ≠ 0 ∨ Gl.isNet (Gl.parse s).1 = false ∨ (Gl.parse s).1.hasQuery = true := by
      by_cases h : (Gl.parse s).2 = 0
      · right; cases hh : Gl.isNet (Gl.parse s).1 with
        | true => right; cases hhh : (Gl.parse s).1.hasQuery with
          | true => rfl
          | false => exact absurd ⟨h, hh, hhh⟩ hg
        | false => exact Or.inl rfl
      · exact Or.inl h
    clear hg
    generalize Gl.parse s = p at *
    obtain ⟨u, er⟩ := p
    simp only at hp hbad
    have hn : ∀ W, Calls Tryd.prog 26 #[(Value.agg #[(Value.string ⟨((u).scheme).toArray⟩), (Value.string ⟨(((u).host).name).toArray⟩), (Value.bool ((u).host).v4), (Value.int .u32 (((u).host).addr : Int)), (Value.int .i64 (u).port), (Value.string ⟨((u).path).toArray⟩), (Value.bool (u).hasQuery), (Value.string ⟨((u).query).toArray⟩), (Value.string ⟨((u).rest).toArray⟩)])] W (Ret W (.bool (Gl.isNet u))) := fun W => urlp_net u W
    generalize Gl.isNet u = nn at *
    replace hp := Lib.hid hp
    replace hn := Lib.hid hn
    replace hbad := Lib.hid hbad
    go_enter Tryd.func10, Tryd.ntmps10
    go_wp2_with (go_at_call 19; refine ( awake _ (hE.below (by (repeat' first | (with_reducible exact Below.refl _ _) | (with_reducible refine Below.setCell ?_ (by first | omega | (simp; done) | (simp; omega)) _) | (with_reducible refine Below.alloc ?_ (by first | omega | (simp; done) | (simp; omega)) _) | refine below_drewN ?_ _ | refine Below.drew ?_ | (refine below_thru (by assumption) ?_ (by first | omega | (simp; done) | (simp; omega))) | exact Below.refl _ _)))).mono ?_; rintro e w1 ⟨rfl, hb⟩; obtain ⟨hc, hfz⟩ := bcell hb; have hz := hb.size; (try simp at hz); (try have hz0 : w.heap.size < w1.heap.size := by omega); (try have hz1 : w.heap.size + 1 < w1.heap.size := by omega); (try have hz2 : w.heap.size + 2 < w1.heap.size := by omega); (try have hz3 : w.heap.size + 3 < w1.heap.size := by omega); (try have hcA := fun o => hc w.heap.size o (by first | omega | (simp; omega))); (try have hcB := fun o => hc (w.heap.size + 1) o (by first | omega | (simp; omega))); (try have hcGg := fun o => hc g o (by first | omega | (simp; omega))); (try have hfGg := fun o => hfz g o (by first | omega | (simp; omega))); (try have hzGg : g < w1.heap.size := by omega); (try have hcGgA := fun o => hc gA o (by first | omega | (simp; omega))); (try have hfGgA := fun o => hfz gA o (by first | omega | (simp; omega))); (try have hzGgA : gA < w1.heap.size := by omega); (try have hcGgB := fun o => hc gB o (by first | omega | (simp; omega))); (try have hfGgB := fun o => hfz gB o (by first | omega | (simp; omega))); (try have hzGgB : gB < w1.heap.size := by omega); (try have hcGgV := fun o => hc gV o (by first | omega | (simp; omega))); (try have hfGgV := fun o => hfz gV o (by first | omega | (simp; omega))); (try have hzGgV : gV < w1.heap.size := by omega))
    go_loop [6] (fun i => ∃ k : Nat, k ≤ q.length ∧ i = .int .i64 k ∧ Hid (∀ c ∈ q.take k, badC c = false ∧ c ≠ 35)) (fun i => q.length - (intOf i).toNat)
    case atStart => exact ⟨0, Nat.zero_le _, rfl, Lib.hid (by simp)⟩
    case round =>
      obtain ⟨k, hk, rfl, hr⟩ := hrel
      by_cases hlt : k < q.length
      · have h256 := (q[k]).toNat_lt
        by_cases hx : (q[k].toNat : Int) < 33
        · go_wp2_with fail
          go_ret
          exact ⟨rfl, by (repeat' first | (with_reducible exact Below.refl _ _) | (with_reducible refine Below.setCell ?_ (by first | omega | (simp; done) | (simp; omega)) _) | (with_reducible refine Below.alloc ?_ (by first | omega | (simp; done) | (simp; omega)) _) | refine below_drewN ?_ _ | refine Below.drew ?_ | (refine below_thru (by assumption) ?_ (by first | omega | (simp; done) | (simp; omega))) | exact Below.refl _ _)⟩
        by_cases hy : 126 < (q[k].toNat : Int)
        · go_wp2_with fail
          go_ret
          exact ⟨rfl, by (repeat' first | (with_reducible exact Below.refl _ _) | (with_reducible refine Below.setCell ?_ (by first | omega | (simp; done) | (simp; omega)) _) | (with_reducible refine Below.alloc ?_ (by first | omega | (simp; done) | (simp; omega)) _) | refine below_drewN ?_ _ | refine Below.drew ?_ | (refine below_thru (by assumption) ?_ (by first | omega | (simp; done) | (simp; omega))) | exact Below.refl _ _)⟩
        by_cases z35 : q[k] = 35
        · have z35' : ((q[k].toNat : Int) == 35) = true := by rw [z35]; rfl
          clear z35
          go_wp2_with fail
          go_ret
          exact ⟨rfl, by (repeat' first | (with_reducible exact Below.refl _ _) | (with_reducible refine Below.setCell ?_ (by first | omega | (simp; done) | (simp; omega)) _) | (with_reducible refine Below.alloc ?_ (by first | omega | (simp; done) | (simp; omega)) _) | refine below_drewN ?_ _ | refine Below.drew ?_ | (refine below_thru (by assumption) ?_ (by first | omega | (simp; done) | (simp; omega))) | exact Below.refl _ _)⟩
        have hf : Hid (∀ c ∈ q.take (k + 1), badC c = false ∧ c ≠ 35) := Lib.hid (by
          intro c hc
          rw [List.take_succ_eq_append_getElem hlt, List.mem_append] at hc
          rcases hc with hc | hc
          · exact hr.out c hc
          · obtain rfl : c = q[k] := by simpa using hc
            exact ⟨by unfold badC; simp; omega, z35⟩)
        have z35' : ((q[k].toNat : Int) == 35) = false := by
          rw [beq_eq_false_iff_ne]; intro h; exact z35 (by apply UInt8.toNat_inj.1; show q[k].toNat = 35; omega)
        clear z35
        go_wp2_with fail
        go_round
        case rel => exact ⟨k + 1, by omega, by go_num, hf⟩
        case measure => simp [intOf]; omega
      · have hall : ∀ c ∈ q, badC c = false ∧ c ≠ 35 := by
          have := hr.out
          rwa [List.take_of_length_le (by omega)] at this
        obtain rfl : k = q.length := by omega
        clear hall hr hlt
        go_upto_region 9 with fail
        go_cut [7, 8] from 12 (fun p e w' => ∃ gA, p = .pointer (some ⟨gA, 0, none⟩) ∧ e = .int .i64 er ∧ w.heap.size ≤ gA ∧ Below w.heap.size w w' ∧ Blk w' gA 27 #[(Value.string ⟨((u).scheme).toArray⟩), (Value.string ⟨(((u).host).name).toArray⟩), (Value.bool ((u).host).v4), (Value.int .u32 (((u).host).addr : Int)), (Value.int .i64 (u).port), (Value.string ⟨((u).path).toArray⟩), (Value.bool (u).hasQuery), (Value.string ⟨((u).query).toArray⟩), (Value.string ⟨((u).rest).toArray⟩)])
        case first =>
          go_wp2_with (go_at_call 20; refine ( hp.out _ (by (repeat' first | (with_reducible exact Below.refl _ _) | (with_reducible refine Below.setCell ?_ (by first | omega | (simp; done) | (simp; omega)) _) | (with_reducible refine Below.alloc ?_ (by first | omega | (simp; done) | (simp; omega)) _) | refine below_drewN ?_ _ | refine Below.drew ?_ | (refine below_thru (by assumption) ?_ (by first | omega | (simp; done) | (simp; omega))) | exact Below.refl _ _))).mono ?_; rintro e w1 ⟨rfl, hb⟩; obtain ⟨hc, hfz⟩ := bcell hb; have hz := hb.size; (try simp at hz); (try have hz0 : w.heap.size < w1.heap.size := by omega); (try have hz1 : w.heap.size + 1 < w1.heap.size := by omega); (try have hz2 : w.heap.size + 2 < w1.heap.size := by omega); (try have hz3 : w.heap.size + 3 < w1.heap.size := by omega); (try have hcA := fun o => hc w.heap.size o (by first | omega | (simp; omega))); (try have hcB := fun o => hc (w.heap.size + 1) o (by first | omega | (simp; omega))); (try have hcGg := fun o => hc g o (by first | omega | (simp; omega))); (try have hfGg := fun o => hfz g o (by first | omega | (simp; omega))); (try have hzGg : g < w1.heap.size := by omega); (try have hcGgA := fun o => hc gA o (by first | omega | (simp; omega))); (try have hfGgA := fun o => hfz gA o (by first | omega | (simp; omega))); (try have hzGgA : gA < w1.heap.size := by omega); (try have hcGgB := fun o => hc gB o (by first | omega | (simp; omega))); (try have hfGgB := fun o => hfz gB o (by first | omega | (simp; omega))); (try have hzGgB : gB < w1.heap.size := by omega); (try have hcGgV := fun o => hc gV o (by first | omega | (simp; omega))); (try have hfGgV := fun o => hfz gV o (by first | omega | (simp; omega))); (try have hzGgV : gV < w1.heap.size := by omega))
          go_meet
          case rel => exact ⟨_, rfl, rfl, by first | omega | (simp; omega), by (repeat' first | (with_reducible exact Below.refl _ _) | (with_reducible refine Below.setCell ?_ (by first | omega | (simp; done) | (simp; omega)) _) | (with_reducible refine Below.alloc ?_ (by first | omega | (simp; done) | (simp; omega)) _) | refine below_drewN ?_ _ | refine Below.drew ?_ | (refine below_thru (by assumption) ?_ (by first | omega | (simp; done) | (simp; omega))) | exact Below.refl _ _), by (repeat' first | (with_reducible assumption) | (with_reducible exact Blk.new _ _ _) | (with_reducible refine Blk.drew_ ?_) | (with_reducible refine Blk.alloc ?_ _) | (refine Blk.below ?_ (by assumption) (by first | omega | (simp; done) | (simp; omega))))⟩
        case rest =>
          obtain ⟨gA, rfl, rfl, hgA, hw, hBA⟩ := hcut
          go_upto_region 10 with fail
          go_cut [9] from 12 (fun p w' => p = .bool nn ∧ Below w.heap.size w w' ∧ Blk w' gA 27 #[(Value.string ⟨((u).scheme).toArray⟩), (Value.string ⟨(((u).host).name).toArray⟩), (Value.bool ((u).host).v4), (Value.int .u32 (((u).host).addr : Int)), (Value.int .i64 (u).port), (Value.string ⟨((u).path).toArray⟩), (Value.bool (u).hasQuery), (Value.string ⟨((u).query).toArray⟩), (Value.string ⟨((u).rest).toArray⟩)])
          case first =>
            have hAl := hBA.lt
            have hAc := hBA.cell
            have hAf := hBA.frozen
            go_wp2_with (go_at_call 26; refine ( hn.out _).mono ?_; rintro e w1 ⟨rfl, hb⟩; obtain ⟨hc, hfz⟩ := bcell hb; have hz := hb.size; (try simp at hz); (try have hz0 : w.heap.size < w1.heap.size := by omega); (try have hz1 : w.heap.size + 1 < w1.heap.size := by omega); (try have hz2 : w.heap.size + 2 < w1.heap.size := by omega); (try have hz3 : w.heap.size + 3 < w1.heap.size := by omega); (try have hcA := fun o => hc w.heap.size o (by first | omega | (simp; omega))); (try have hcB := fun o => hc (w.heap.size + 1) o (by first | omega | (simp; omega))); (try have hcGg := fun o => hc g o (by first | omega | (simp; omega))); (try have hfGg := fun o => hfz g o (by first | omega | (simp; omega))); (try have hzGg : g < w1.heap.size := by omega); (try have hcGgA := fun o => hc gA o (by first | omega | (simp; omega))); (try have hfGgA := fun o => hfz gA o (by first | omega | (simp; omega))); (try have hzGgA : gA < w1.heap.size := by omega); (try have hcGgB := fun o => hc gB o (by first | omega | (simp; omega))); (try have hfGgB := fun o => hfz gB o (by first | omega | (simp; omega))); (try have hzGgB : gB < w1.heap.size := by omega); (try have hcGgV := fun o => hc gV o (by first | omega | (simp; omega))); (try have hfGgV := fun o => hfz gV o (by first | omega | (simp; omega))); (try have hzGgV : gV < w1.heap.size := by omega))
            go_meet
            case rel => exact ⟨rfl, by (repeat' first | (with_reducible exact Below.refl _ _) | (with_reducible refine Below.setCell ?_ (by first | omega | (simp; done) | (simp; omega)) _) | (with_reducible refine Below.alloc ?_ (by first | omega | (simp; done) | (simp; omega)) _) | refine below_drewN ?_ _ | refine Below.drew ?_ | (refine below_thru (by assumption) ?_ (by first | omega | (simp; done) | (simp; omega))) | exact Below.refl _ _), by (repeat' first | (with_reducible assumption) | (with_reducible exact Blk.new _ _ _) | (with_reducible refine Blk.drew_ ?_) | (with_reducible refine Blk.alloc ?_ _) | (refine Blk.below ?_ (by assumption) (by first | omega | (simp; done) | (simp; omega))))⟩
          case rest =>
            clear hw hBA
            obtain ⟨rfl, hw, hBA⟩ := hcut
            have hAl := hBA.lt
            have hAc := hBA.cell
            have hAf := hBA.frozen
            rcases hbad.out with q1 | q1 | q1
            · have q4 : (er != 0) = true := by simpa using q1
              go_wp2_with fail
              go_ret
              exact ⟨rfl, by (repeat' first | (with_reducible exact Below.refl _ _) | (with_reducible refine Below.setCell ?_ (by first | omega | (simp; done) | (simp; omega)) _) | (with_reducible refine Below.alloc ?_ (by first | omega | (simp; done) | (simp; omega)) _) | refine below_drewN ?_ _ | refine Below.drew ?_ | (refine below_thru (by assumption) ?_ (by first | omega | (simp; done) | (simp; omega))) | exact Below.refl _ _)⟩
            · have q5 : (er != 0) = true ∨ (er != 0) = false := by cases (er != 0) <;> simp
              rcases q5 with q5 | q5
              all_goals go_wp2_with fail
              all_goals go_ret
              all_goals exact ⟨rfl, by (repeat' first | (with_reducible exact Below.refl _ _) | (with_reducible refine Below.setCell ?_ (by first | omega | (simp; done) | (simp; omega)) _) | (with_reducible refine Below.alloc ?_ (by first | omega | (simp; done) | (simp; omega)) _) | refine below_drewN ?_ _ | refine Below.drew ?_ | (refine below_thru (by assumption) ?_ (by first | omega | (simp; done) | (simp; omega))) | exact Below.refl _ _)⟩
            · have q5 : (er != 0) = true ∨ (er != 0) = false := by cases (er != 0) <;> simp
              rcases q5 with q5 | q5 <;> cases nn
              all_goals go_wp2_with fail
              all_goals go_ret
              all_goals exact ⟨rfl, by (repeat' first | (with_reducible exact Below.refl _ _) | (with_reducible refine Below.setCell ?_ (by first | omega | (simp; done) | (simp; omega)) _) | (with_reducible refine Below.alloc ?_ (by first | omega | (simp; done) | (simp; omega)) _) | refine below_drewN ?_ _ | refine Below.drew ?_ | (refine below_thru (by assumption) ?_ (by first | omega | (simp; done) | (simp; omega))) | exact Below.refl _ _)⟩
end Go.Proofs.YthmgcnaoionmoaaDoor
