/- The law UrlpEnds, walked. -/
import Derived.Test.YthmgcnaoionmoaaDoorAwake
import Derived.Test.YthmgcnaoionmoaaDoorEqs
import Derived.Test.YthmgcnaoionmoaaDoorPlain3
namespace Go.Proofs.YthmgcnaoionmoaaDoor
open Go.RowKit
attribute [local irreducible] Calls

set_option maxHeartbeats 2000000 in
set_option maxRecDepth 100000 in
theorem law_ends (s more : List UInt8) (w : World) (hE : Env w) : Calls Tryd.prog 7 #[(Value.string ⟨(s).toArray⟩), (Value.string ⟨(more).toArray⟩)] w (Ret w (.bool true)) := by
  rcases Nat.lt_or_ge 1000 s.length with hs | hs
  · go_enter Tryd.func7, Tryd.ntmps7
    go_wp2_with (go_at_call 19; refine ( awake _ (hE.below (by (repeat' first | (with_reducible exact Below.refl _ _) | (with_reducible refine Below.setCell ?_ (by first | omega | (simp; done) | (simp; omega)) _) | (with_reducible refine Below.alloc ?_ (by first | omega | (simp; done) | (simp; omega)) _) | refine below_drewN ?_ _ | refine Below.drew ?_ | (refine below_thru (by assumption) ?_ (by first | omega | (simp; done) | (simp; omega))) | exact Below.refl _ _)))).mono ?_; rintro e w1 ⟨rfl, hb⟩; obtain ⟨hc, hfz⟩ := bcell hb; have hz := hb.size; (try simp at hz); (try have hz0 : w.heap.size < w1.heap.size := by omega); (try have hz1 : w.heap.size + 1 < w1.heap.size := by omega); (try have hz2 : w.heap.size + 2 < w1.heap.size := by omega); (try have hz3 : w.heap.size + 3 < w1.heap.size := by omega); (try have hcA := fun o => hc w.heap.size o (by first | omega | (simp; omega))); (try have hcB := fun o => hc (w.heap.size + 1) o (by first | omega | (simp; omega))); (try have hcGg := fun o => hc g o (by first | omega | (simp; omega))); (try have hfGg := fun o => hfz g o (by first | omega | (simp; omega))); (try have hzGg : g < w1.heap.size := by omega); (try have hcGgA := fun o => hc gA o (by first | omega | (simp; omega))); (try have hfGgA := fun o => hfz gA o (by first | omega | (simp; omega))); (try have hzGgA : gA < w1.heap.size := by omega); (try have hcGgB := fun o => hc gB o (by first | omega | (simp; omega))); (try have hfGgB := fun o => hfz gB o (by first | omega | (simp; omega))); (try have hzGgB : gB < w1.heap.size := by omega); (try have hcGgV := fun o => hc gV o (by first | omega | (simp; omega))); (try have hfGgV := fun o => hfz gV o (by first | omega | (simp; omega))); (try have hzGgV : gV < w1.heap.size := by omega))
    go_ret
    exact ⟨rfl, by (repeat' first | (with_reducible exact Below.refl _ _) | (with_reducible refine Below.setCell ?_ (by first | omega | (simp; done) | (simp; omega)) _) | (with_reducible refine Below.alloc ?_ (by first | omega | (simp; done) | (simp; omega)) _) | refine below_drewN ?_ _ | refine Below.drew ?_ | (refine below_thru (by assumption) ?_ (by first | omega | (simp; done) | (simp; omega))) | exact Below.refl _ _)⟩
  rcases Nat.lt_or_ge 900 more.length with hs2 | hs2
  · go_enter Tryd.func7, Tryd.ntmps7
    go_wp2_with (go_at_call 19; refine ( awake _ (hE.below (by (repeat' first | (with_reducible exact Below.refl _ _) | (with_reducible refine Below.setCell ?_ (by first | omega | (simp; done) | (simp; omega)) _) | (with_reducible refine Below.alloc ?_ (by first | omega | (simp; done) | (simp; omega)) _) | refine below_drewN ?_ _ | refine Below.drew ?_ | (refine below_thru (by assumption) ?_ (by first | omega | (simp; done) | (simp; omega))) | exact Below.refl _ _)))).mono ?_; rintro e w1 ⟨rfl, hb⟩; obtain ⟨hc, hfz⟩ := bcell hb; have hz := hb.size; (try simp at hz); (try have hz0 : w.heap.size < w1.heap.size := by omega); (try have hz1 : w.heap.size + 1 < w1.heap.size := by omega); (try have hz2 : w.heap.size + 2 < w1.heap.size := by omega); (try have hz3 : w.heap.size + 3 < w1.heap.size := by omega); (try have hcA := fun o => hc w.heap.size o (by first | omega | (simp; omega))); (try have hcB := fun o => hc (w.heap.size + 1) o (by first | omega | (simp; omega))); (try have hcGg := fun o => hc g o (by first | omega | (simp; omega))); (try have hfGg := fun o => hfz g o (by first | omega | (simp; omega))); (try have hzGg : g < w1.heap.size := by omega); (try have hcGgA := fun o => hc gA o (by first | omega | (simp; omega))); (try have hfGgA := fun o => hfz gA o (by first | omega | (simp; omega))); (try have hzGgA : gA < w1.heap.size := by omega); (try have hcGgB := fun o => hc gB o (by first | omega | (simp; omega))); (try have hfGgB := fun o => hfz gB o (by first | omega | (simp; omega))); (try have hzGgB : gB < w1.heap.size := by omega); (try have hcGgV := fun o => hc gV o (by first | omega | (simp; omega))); (try have hfGgV := fun o => hfz gV o (by first | omega | (simp; omega))); (try have hzGgV : gV < w1.heap.size := by omega))
    go_ret
    exact ⟨rfl, by (repeat' first | (with_reducible exact Below.refl _ _) | (with_reducible refine Below.setCell ?_ (by first | omega | (simp; done) | (simp; omega)) _) | (with_reducible refine Below.alloc ?_ (by first | omega | (simp; done) | (simp; omega)) _) | refine below_drewN ?_ _ | refine Below.drew ?_ | (refine below_thru (by assumption) ?_ (by first | omega | (simp; done) | (simp; omega))) | exact Below.refl _ _)⟩
  have hp : ∀ W, Below w.heap.size w W → Calls Tryd.prog 20 #[(Value.string ⟨(s).toArray⟩)] W (Ret W (.tuple #[(Value.agg #[(Value.string ⟨(((Gl.parse s).1).scheme).toArray⟩), (Value.string ⟨((((Gl.parse s).1).host).name).toArray⟩), (Value.bool (((Gl.parse s).1).host).v4), (Value.int .u32 ((((Gl.parse s).1).host).addr : Int)), (Value.int .i64 ((Gl.parse s).1).port), (Value.string ⟨(((Gl.parse s).1).path).toArray⟩), (Value.bool ((Gl.parse s).1).hasQuery), (Value.string ⟨(((Gl.parse s).1).query).toArray⟩), (Value.string ⟨(((Gl.parse s).1).rest).toArray⟩)]), .int .i64 (Gl.parse s).2])) := fun W hW => urlp_parse s W (by omega) (hE.below hW)
  have ha : ∀ W, Below w.heap.size w W → Calls Tryd.prog 20 #[(Value.string ⟨([10, 32, 0] ++ s ++ [9, 32]).toArray⟩)] W (Ret W (.tuple #[(Value.agg #[(Value.string ⟨(((Gl.parse s).1).scheme).toArray⟩), (Value.string ⟨((((Gl.parse s).1).host).name).toArray⟩), (Value.bool (((Gl.parse s).1).host).v4), (Value.int .u32 ((((Gl.parse s).1).host).addr : Int)), (Value.int .i64 ((Gl.parse s).1).port), (Value.string ⟨(((Gl.parse s).1).path).toArray⟩), (Value.bool ((Gl.parse s).1).hasQuery), (Value.string ⟨(((Gl.parse s).1).query).toArray⟩), (Value.string ⟨(((Gl.parse s).1).rest).toArray⟩)]), .int .i64 (Gl.parse s).2])) := fun W hW => by
    have := urlp_parse ([10, 32, 0] ++ s ++ [9, 32]) W (by simp; omega) (hE.below hW)
    rwa [plain_ends] at this
  have hm : (∀ c ∈ s, 32 < c.toNat ∧ c ≠ 35) → ¬ ((Gl.parse s).2 = 30 ∧ (Gl.split 58 s).length = 1) → ∀ W, Below w.heap.size w W → Calls Tryd.prog 20 #[(Value.string ⟨(s ++ 35 :: more).toArray⟩)] W (Ret W (.tuple #[(Value.agg #[(Value.string ⟨(((Gl.parse s).1).scheme).toArray⟩), (Value.string ⟨((((Gl.parse s).1).host).name).toArray⟩), (Value.bool (((Gl.parse s).1).host).v4), (Value.int .u32 ((((Gl.parse s).1).host).addr : Int)), (Value.int .i64 ((Gl.parse s).1).port), (Value.string ⟨(((Gl.parse s).1).path).toArray⟩), (Value.bool ((Gl.parse s).1).hasQuery), (Value.string ⟨(((Gl.parse s).1).query).toArray⟩), (Value.string ⟨(((Gl.parse s).1).rest).toArray⟩)]), .int .i64 (Gl.parse s).2])) := fun h1 h2 W hW => by
    have := urlp_parse (s ++ [35] ++ more) W (by simp; omega) (hE.below hW)
    rw [plain_more s more h1 hs hs2 h2] at this
    rw [show s ++ 35 :: more = s ++ [35] ++ more by simp]
    exact this
  generalize Gl.parse s = p at *
  obtain ⟨u, er⟩ := p
  simp only at hp ha hm
  replace hp := Lib.hid hp
  replace ha := Lib.hid ha
  replace hm := Lib.hid hm
  go_enter Tryd.func7, Tryd.ntmps7
  go_upto_region 4 with (go_at_call 19; refine ( awake _ (hE.below (by (repeat' first | (with_reducible exact Below.refl _ _) | (with_reducible refine Below.setCell ?_ (by first | omega | (simp; done) | (simp; omega)) _) | (with_reducible refine Below.alloc ?_ (by first | omega | (simp; done) | (simp; omega)) _) | refine below_drewN ?_ _ | refine Below.drew ?_ | (refine below_thru (by assumption) ?_ (by first | omega | (simp; done) | (simp; omega))) | exact Below.refl _ _)))).mono ?_; rintro e w1 ⟨rfl, hb⟩; obtain ⟨hc, hfz⟩ := bcell hb; have hz := hb.size; (try simp at hz); (try have hz0 : w.heap.size < w1.heap.size := by omega); (try have hz1 : w.heap.size + 1 < w1.heap.size := by omega); (try have hz2 : w.heap.size + 2 < w1.heap.size := by omega); (try have hz3 : w.heap.size + 3 < w1.heap.size := by omega); (try have hcA := fun o => hc w.heap.size o (by first | omega | (simp; omega))); (try have hcB := fun o => hc (w.heap.size + 1) o (by first | omega | (simp; omega))); (try have hcGg := fun o => hc g o (by first | omega | (simp; omega))); (try have hfGg := fun o => hfz g o (by first | omega | (simp; omega))); (try have hzGg : g < w1.heap.size := by omega); (try have hcGgA := fun o => hc gA o (by first | omega | (simp; omega))); (try have hfGgA := fun o => hfz gA o (by first | omega | (simp; omega))); (try have hzGgA : gA < w1.heap.size := by omega); (try have hcGgB := fun o => hc gB o (by first | omega | (simp; omega))); (try have hfGgB := fun o => hfz gB o (by first | omega | (simp; omega))); (try have hzGgB : gB < w1.heap.size := by omega); (try have hcGgV := fun o => hc gV o (by first | omega | (simp; omega))); (try have hfGgV := fun o => hfz gV o (by first | omega | (simp; omega))); (try have hzGgV : gV < w1.heap.size := by omega))
  go_cut [6, 7] from 13 (fun p e w' => ∃ gA, p = .pointer (some ⟨gA, 0, none⟩) ∧ e = .int .i64 er ∧ w.heap.size ≤ gA ∧ Below w.heap.size w w' ∧ Blk w' gA 27 #[(Value.string ⟨((u).scheme).toArray⟩), (Value.string ⟨(((u).host).name).toArray⟩), (Value.bool ((u).host).v4), (Value.int .u32 (((u).host).addr : Int)), (Value.int .i64 (u).port), (Value.string ⟨((u).path).toArray⟩), (Value.bool (u).hasQuery), (Value.string ⟨((u).query).toArray⟩), (Value.string ⟨((u).rest).toArray⟩)])
  case first =>
    go_wp2_with (go_at_call 20; refine ( hp.out _ (by (repeat' first | (with_reducible exact Below.refl _ _) | (with_reducible refine Below.setCell ?_ (by first | omega | (simp; done) | (simp; omega)) _) | (with_reducible refine Below.alloc ?_ (by first | omega | (simp; done) | (simp; omega)) _) | refine below_drewN ?_ _ | refine Below.drew ?_ | (refine below_thru (by assumption) ?_ (by first | omega | (simp; done) | (simp; omega))) | exact Below.refl _ _))).mono ?_; rintro e w1 ⟨rfl, hb⟩; obtain ⟨hc, hfz⟩ := bcell hb; have hz := hb.size; (try simp at hz); (try have hz0 : w.heap.size < w1.heap.size := by omega); (try have hz1 : w.heap.size + 1 < w1.heap.size := by omega); (try have hz2 : w.heap.size + 2 < w1.heap.size := by omega); (try have hz3 : w.heap.size + 3 < w1.heap.size := by omega); (try have hcA := fun o => hc w.heap.size o (by first | omega | (simp; omega))); (try have hcB := fun o => hc (w.heap.size + 1) o (by first | omega | (simp; omega))); (try have hcGg := fun o => hc g o (by first | omega | (simp; omega))); (try have hfGg := fun o => hfz g o (by first | omega | (simp; omega))); (try have hzGg : g < w1.heap.size := by omega); (try have hcGgA := fun o => hc gA o (by first | omega | (simp; omega))); (try have hfGgA := fun o => hfz gA o (by first | omega | (simp; omega))); (try have hzGgA : gA < w1.heap.size := by omega); (try have hcGgB := fun o => hc gB o (by first | omega | (simp; omega))); (try have hfGgB := fun o => hfz gB o (by first | omega | (simp; omega))); (try have hzGgB : gB < w1.heap.size := by omega); (try have hcGgV := fun o => hc gV o (by first | omega | (simp; omega))); (try have hfGgV := fun o => hfz gV o (by first | omega | (simp; omega))); (try have hzGgV : gV < w1.heap.size := by omega))
    go_meet
    case rel => exact ⟨_, rfl, rfl, by first | omega | (simp; omega), by (repeat' first | (with_reducible exact Below.refl _ _) | (with_reducible refine Below.setCell ?_ (by first | omega | (simp; done) | (simp; omega)) _) | (with_reducible refine Below.alloc ?_ (by first | omega | (simp; done) | (simp; omega)) _) | refine below_drewN ?_ _ | refine Below.drew ?_ | (refine below_thru (by assumption) ?_ (by first | omega | (simp; done) | (simp; omega))) | exact Below.refl _ _), by (repeat' first | (with_reducible assumption) | (with_reducible exact Blk.new _ _ _) | (with_reducible refine Blk.drew_ ?_) | (with_reducible refine Blk.alloc ?_ _) | (refine Blk.below ?_ (by assumption) (by first | omega | (simp; done) | (simp; omega))))⟩
  case rest =>
    obtain ⟨gA, rfl, rfl, hgA, hw, hBA⟩ := hcut
    go_upto_region 5 with fail
    go_cut [8, 9] from 13 (fun p e w' => ∃ gB, p = .pointer (some ⟨gB, 0, none⟩) ∧ e = .int .i64 er ∧ w.heap.size ≤ gB ∧ gA ≠ gB ∧ Below w.heap.size w w' ∧ Blk w' gA 27 #[(Value.string ⟨((u).scheme).toArray⟩), (Value.string ⟨(((u).host).name).toArray⟩), (Value.bool ((u).host).v4), (Value.int .u32 (((u).host).addr : Int)), (Value.int .i64 (u).port), (Value.string ⟨((u).path).toArray⟩), (Value.bool (u).hasQuery), (Value.string ⟨((u).query).toArray⟩), (Value.string ⟨((u).rest).toArray⟩)] ∧ Blk w' gB 27 #[(Value.string ⟨((u).scheme).toArray⟩), (Value.string ⟨(((u).host).name).toArray⟩), (Value.bool ((u).host).v4), (Value.int .u32 (((u).host).addr : Int)), (Value.int .i64 (u).port), (Value.string ⟨((u).path).toArray⟩), (Value.bool (u).hasQuery), (Value.string ⟨((u).query).toArray⟩), (Value.string ⟨((u).rest).toArray⟩)])
    case first =>
      have hAl := hBA.lt
      have hAc := hBA.cell
      have hAf := hBA.frozen
      go_wp2_with (go_at_call 20; refine ( ha.out _ (by (repeat' first | (with_reducible exact Below.refl _ _) | (with_reducible refine Below.setCell ?_ (by first | omega | (simp; done) | (simp; omega)) _) | (with_reducible refine Below.alloc ?_ (by first | omega | (simp; done) | (simp; omega)) _) | refine below_drewN ?_ _ | refine Below.drew ?_ | (refine below_thru (by assumption) ?_ (by first | omega | (simp; done) | (simp; omega))) | exact Below.refl _ _))).mono ?_; rintro e w1 ⟨rfl, hb⟩; obtain ⟨hc, hfz⟩ := bcell hb; have hz := hb.size; (try simp at hz); (try have hz0 : w.heap.size < w1.heap.size := by omega); (try have hz1 : w.heap.size + 1 < w1.heap.size := by omega); (try have hz2 : w.heap.size + 2 < w1.heap.size := by omega); (try have hz3 : w.heap.size + 3 < w1.heap.size := by omega); (try have hcA := fun o => hc w.heap.size o (by first | omega | (simp; omega))); (try have hcB := fun o => hc (w.heap.size + 1) o (by first | omega | (simp; omega))); (try have hcGg := fun o => hc g o (by first | omega | (simp; omega))); (try have hfGg := fun o => hfz g o (by first | omega | (simp; omega))); (try have hzGg : g < w1.heap.size := by omega); (try have hcGgA := fun o => hc gA o (by first | omega | (simp; omega))); (try have hfGgA := fun o => hfz gA o (by first | omega | (simp; omega))); (try have hzGgA : gA < w1.heap.size := by omega); (try have hcGgB := fun o => hc gB o (by first | omega | (simp; omega))); (try have hfGgB := fun o => hfz gB o (by first | omega | (simp; omega))); (try have hzGgB : gB < w1.heap.size := by omega); (try have hcGgV := fun o => hc gV o (by first | omega | (simp; omega))); (try have hfGgV := fun o => hfz gV o (by first | omega | (simp; omega))); (try have hzGgV : gV < w1.heap.size := by omega))
      go_meet
      case rel => exact ⟨_, rfl, rfl, by first | omega | (simp; omega), by first | omega | (simp; omega), by (repeat' first | (with_reducible exact Below.refl _ _) | (with_reducible refine Below.setCell ?_ (by first | omega | (simp; done) | (simp; omega)) _) | (with_reducible refine Below.alloc ?_ (by first | omega | (simp; done) | (simp; omega)) _) | refine below_drewN ?_ _ | refine Below.drew ?_ | (refine below_thru (by assumption) ?_ (by first | omega | (simp; done) | (simp; omega))) | exact Below.refl _ _), by (repeat' first | (with_reducible assumption) | (with_reducible exact Blk.new _ _ _) | (with_reducible refine Blk.drew_ ?_) | (with_reducible refine Blk.alloc ?_ _) | (refine Blk.below ?_ (by assumption) (by first | omega | (simp; done) | (simp; omega)))), by (repeat' first | (with_reducible assumption) | (with_reducible exact Blk.new _ _ _) | (with_reducible refine Blk.drew_ ?_) | (with_reducible refine Blk.alloc ?_ _) | (refine Blk.below ?_ (by assumption) (by first | omega | (simp; done) | (simp; omega))))⟩
    case rest =>
      clear hw hBA
      obtain ⟨gB, rfl, rfl, hgB, hnAB, hw, hBA, hBB⟩ := hcut
      have hAl := hBA.lt
      have hAc := hBA.cell
      have hAf := hBA.frozen
      have hBl := hBB.lt
      have hBc := hBB.cell
      have hBf := hBB.frozen
      go_wp2_with fail
      go_loop [10] (fun i => ∃ k : Nat, k ≤ s.length ∧ i = .int .i64 k ∧ Hid (∀ c ∈ s.take k, 32 < c.toNat ∧ c ≠ 35)) (fun i => s.length - (intOf i).toNat)
      case atStart => exact ⟨0, Nat.zero_le _, rfl, Lib.hid (by simp)⟩
      case round =>
        obtain ⟨k, hk, rfl, hr⟩ := hrel
        by_cases hlt : k < s.length
        · have h256 := (s[k]).toNat_lt
          by_cases hx : (s[k].toNat : Int) ≤ 32
          · go_wp2_with fail
            go_ret
            exact ⟨rfl, by (repeat' first | (with_reducible exact Below.refl _ _) | (with_reducible refine Below.setCell ?_ (by first | omega | (simp; done) | (simp; omega)) _) | (with_reducible refine Below.alloc ?_ (by first | omega | (simp; done) | (simp; omega)) _) | refine below_drewN ?_ _ | refine Below.drew ?_ | (refine below_thru (by assumption) ?_ (by first | omega | (simp; done) | (simp; omega))) | exact Below.refl _ _)⟩
          by_cases hy : s[k] = 35
          · have hy' : ((s[k].toNat : Int) == 35) = true := by rw [hy]; rfl
            clear hy
            go_wp2_with fail
            go_ret
            exact ⟨rfl, by (repeat' first | (with_reducible exact Below.refl _ _) | (with_reducible refine Below.setCell ?_ (by first | omega | (simp; done) | (simp; omega)) _) | (with_reducible refine Below.alloc ?_ (by first | omega | (simp; done) | (simp; omega)) _) | refine below_drewN ?_ _ | refine Below.drew ?_ | (refine below_thru (by assumption) ?_ (by first | omega | (simp; done) | (simp; omega))) | exact Below.refl _ _)⟩
          have hf : Hid (∀ c ∈ s.take (k + 1), 32 < c.toNat ∧ c ≠ 35) := Lib.hid (by
            intro c hc
            rw [List.take_succ_eq_append_getElem hlt, List.mem_append] at hc
            rcases hc with hc | hc
            · exact hr.out c hc
            · obtain rfl : c = s[k] := by simpa using hc
              exact ⟨by omega, hy⟩)
          have hy' : ((s[k].toNat : Int) == 35) = false := by
            rw [beq_eq_false_iff_ne]; intro h; exact hy (by apply UInt8.toNat_inj.1; show s[k].toNat = 35; omega)
          clear hy
          go_wp2_with fail
          go_round
          case rel => exact ⟨k + 1, by omega, by go_num, hf⟩
          case measure => simp [intOf]; omega
        · have hall : ∀ c ∈ s, 32 < c.toNat ∧ c ≠ 35 := by
            have := hr.out
            rwa [List.take_of_length_le (by omega)] at this
          obtain rfl : k = s.length := by omega
          have hsp : ∀ W, Calls Tryd.prog 28 #[(Value.string ⟨(s).toArray⟩), .int .u8 58] W (RetStrs W (Gl.split 58 s)) := fun W => octet_split s 58 W (by omega)
          have hmo := hm.out hall
          clear hall hr hlt
          have hpos := split_pos 58 s
          have hsl := split_len 58 s
          generalize Gl.split 58 s = L at *
          replace hsp := Lib.hid hsp
          by_cases he1 : er = 30 ∧ L.length = 1
          · obtain ⟨rfl, hl1⟩ := he1
            clear hmo
            go_wp2_with (go_at_call 28; refine ( hsp.out _).mono ?_; rintro e w1 ⟨v, rfl, hst, hb⟩; obtain ⟨hc, hfz⟩ := bcell hb; have hz := hb.size; (try simp at hz); (try have hz0 : w.heap.size < w1.heap.size := by omega); (try have hz1 : w.heap.size + 1 < w1.heap.size := by omega); (try have hz2 : w.heap.size + 2 < w1.heap.size := by omega); (try have hz3 : w.heap.size + 3 < w1.heap.size := by omega); obtain ⟨lb, lc, hlc, hlm, hlB, hlv, _, hlcell⟩ := hst.at_; obtain rfl := hlv ( hpos); obtain ⟨hlb, hlB⟩ := hlB ( hpos))
            go_ret
            exact ⟨rfl, by (repeat' first | (with_reducible exact Below.refl _ _) | (with_reducible refine Below.setCell ?_ (by first | omega | (simp; done) | (simp; omega)) _) | (with_reducible refine Below.alloc ?_ (by first | omega | (simp; done) | (simp; omega)) _) | refine below_drewN ?_ _ | refine Below.drew ?_ | (refine below_thru (by assumption) ?_ (by first | omega | (simp; done) | (simp; omega))) | exact Below.refl _ _)⟩
          · have hbp := Lib.hid (hmo he1)
            clear hmo
            have he2 : (er == 30) = false ∨ ((er == 30) = true ∧ ((L.length : Int) == 1) = false) := by
              by_cases h : er = 30
              · right; refine ⟨by simpa using h, ?_⟩; rw [beq_eq_false_iff_ne]; intro h'; exact he1 ⟨h, by omega⟩
              · left; simpa using h
            clear he1
            rcases he2 with he2 | ⟨he2, he3⟩
            · go_upto_region 15 with (go_at_call 28; refine ( hsp.out _).mono ?_; rintro e w1 ⟨v, rfl, hst, hb⟩; obtain ⟨hc, hfz⟩ := bcell hb; have hz := hb.size; (try simp at hz); (try have hz0 : w.heap.size < w1.heap.size := by omega); (try have hz1 : w.heap.size + 1 < w1.heap.size := by omega); (try have hz2 : w.heap.size + 2 < w1.heap.size := by omega); (try have hz3 : w.heap.size + 3 < w1.heap.size := by omega); obtain ⟨lb, lc, hlc, hlm, hlB, hlv, _, hlcell⟩ := hst.at_; obtain rfl := hlv ( hpos); obtain ⟨hlb, hlB⟩ := hlB ( hpos))
              go_cut [11, 12] from 13 (fun p e w' => ∃ gC, p = .pointer (some ⟨gC, 0, none⟩) ∧ e = .int .i64 er ∧ w.heap.size ≤ gC ∧ gA ≠ gC ∧ gB ≠ gC ∧ Below w.heap.size w w' ∧ Blk w' gA 27 #[(Value.string ⟨((u).scheme).toArray⟩), (Value.string ⟨(((u).host).name).toArray⟩), (Value.bool ((u).host).v4), (Value.int .u32 (((u).host).addr : Int)), (Value.int .i64 (u).port), (Value.string ⟨((u).path).toArray⟩), (Value.bool (u).hasQuery), (Value.string ⟨((u).query).toArray⟩), (Value.string ⟨((u).rest).toArray⟩)] ∧ Blk w' gB 27 #[(Value.string ⟨((u).scheme).toArray⟩), (Value.string ⟨(((u).host).name).toArray⟩), (Value.bool ((u).host).v4), (Value.int .u32 (((u).host).addr : Int)), (Value.int .i64 (u).port), (Value.string ⟨((u).path).toArray⟩), (Value.bool (u).hasQuery), (Value.string ⟨((u).query).toArray⟩), (Value.string ⟨((u).rest).toArray⟩)] ∧ Blk w' gC 27 #[(Value.string ⟨((u).scheme).toArray⟩), (Value.string ⟨(((u).host).name).toArray⟩), (Value.bool ((u).host).v4), (Value.int .u32 (((u).host).addr : Int)), (Value.int .i64 (u).port), (Value.string ⟨((u).path).toArray⟩), (Value.bool (u).hasQuery), (Value.string ⟨((u).query).toArray⟩), (Value.string ⟨((u).rest).toArray⟩)])
              case first =>
                have hAl := hBA.lt
                have hAc := hBA.cell
                have hAf := hBA.frozen
                have hBl := hBB.lt
                have hBc := hBB.cell
                have hBf := hBB.frozen
                go_wp2_with (go_at_call 20; refine ( hbp.out _ (by (repeat' first | (with_reducible exact Below.refl _ _) | (with_reducible refine Below.setCell ?_ (by first | omega | (simp; done) | (simp; omega)) _) | (with_reducible refine Below.alloc ?_ (by first | omega | (simp; done) | (simp; omega)) _) | refine below_drewN ?_ _ | refine Below.drew ?_ | (refine below_thru (by assumption) ?_ (by first | omega | (simp; done) | (simp; omega))) | exact Below.refl _ _))).mono ?_; rintro e w1 ⟨rfl, hb⟩; obtain ⟨hc, hfz⟩ := bcell hb; have hz := hb.size; (try simp at hz); (try have hz0 : w.heap.size < w1.heap.size := by omega); (try have hz1 : w.heap.size + 1 < w1.heap.size := by omega); (try have hz2 : w.heap.size + 2 < w1.heap.size := by omega); (try have hz3 : w.heap.size + 3 < w1.heap.size := by omega); (try have hcA := fun o => hc w.heap.size o (by first | omega | (simp; omega))); (try have hcB := fun o => hc (w.heap.size + 1) o (by first | omega | (simp; omega))); (try have hcGg := fun o => hc g o (by first | omega | (simp; omega))); (try have hfGg := fun o => hfz g o (by first | omega | (simp; omega))); (try have hzGg : g < w1.heap.size := by omega); (try have hcGgA := fun o => hc gA o (by first | omega | (simp; omega))); (try have hfGgA := fun o => hfz gA o (by first | omega | (simp; omega))); (try have hzGgA : gA < w1.heap.size := by omega); (try have hcGgB := fun o => hc gB o (by first | omega | (simp; omega))); (try have hfGgB := fun o => hfz gB o (by first | omega | (simp; omega))); (try have hzGgB : gB < w1.heap.size := by omega); (try have hcGgV := fun o => hc gV o (by first | omega | (simp; omega))); (try have hfGgV := fun o => hfz gV o (by first | omega | (simp; omega))); (try have hzGgV : gV < w1.heap.size := by omega))
                go_meet
                case rel => exact ⟨_, rfl, rfl, by first | omega | (simp; omega), by first | omega | (simp; omega), by first | omega | (simp; omega), by (repeat' first | (with_reducible exact Below.refl _ _) | (with_reducible refine Below.setCell ?_ (by first | omega | (simp; done) | (simp; omega)) _) | (with_reducible refine Below.alloc ?_ (by first | omega | (simp; done) | (simp; omega)) _) | refine below_drewN ?_ _ | refine Below.drew ?_ | (refine below_thru (by assumption) ?_ (by first | omega | (simp; done) | (simp; omega))) | exact Below.refl _ _), by (repeat' first | (with_reducible assumption) | (with_reducible exact Blk.new _ _ _) | (with_reducible refine Blk.drew_ ?_) | (with_reducible refine Blk.alloc ?_ _) | (refine Blk.below ?_ (by assumption) (by first | omega | (simp; done) | (simp; omega)))), by (repeat' first | (with_reducible assumption) | (with_reducible exact Blk.new _ _ _) | (with_reducible refine Blk.drew_ ?_) | (with_reducible refine Blk.alloc ?_ _) | (refine Blk.below ?_ (by assumption) (by first | omega | (simp; done) | (simp; omega)))), by (repeat' first | (with_reducible assumption) | (with_reducible exact Blk.new _ _ _) | (with_reducible refine Blk.drew_ ?_) | (with_reducible refine Blk.alloc ?_ _) | (refine Blk.below ?_ (by assumption) (by first | omega | (simp; done) | (simp; omega))))⟩
              case rest =>
                clear hw hBA hBB
                obtain ⟨gC, rfl, rfl, hgC, hnAC, hnBC, hw, hBA, hBB, hBC⟩ := hcut
                have hAl := hBA.lt
                have hAc := hBA.cell
                have hAf := hBA.frozen
                have hBl := hBB.lt
                have hBc := hBB.cell
                have hBf := hBB.frozen
                have hCl := hBC.lt
                have hCc := hBC.cell
                have hCf := hBC.frozen
                go_wp2_with fail
                go_ret
                exact ⟨rfl, by (repeat' first | (with_reducible exact Below.refl _ _) | (with_reducible refine Below.setCell ?_ (by first | omega | (simp; done) | (simp; omega)) _) | (with_reducible refine Below.alloc ?_ (by first | omega | (simp; done) | (simp; omega)) _) | refine below_drewN ?_ _ | refine Below.drew ?_ | (refine below_thru (by assumption) ?_ (by first | omega | (simp; done) | (simp; omega))) | exact Below.refl _ _)⟩
            · go_upto_region 15 with (go_at_call 28; refine ( hsp.out _).mono ?_; rintro e w1 ⟨v, rfl, hst, hb⟩; obtain ⟨hc, hfz⟩ := bcell hb; have hz := hb.size; (try simp at hz); (try have hz0 : w.heap.size < w1.heap.size := by omega); (try have hz1 : w.heap.size + 1 < w1.heap.size := by omega); (try have hz2 : w.heap.size + 2 < w1.heap.size := by omega); (try have hz3 : w.heap.size + 3 < w1.heap.size := by omega); obtain ⟨lb, lc, hlc, hlm, hlB, hlv, _, hlcell⟩ := hst.at_; obtain rfl := hlv ( hpos); obtain ⟨hlb, hlB⟩ := hlB ( hpos))
              go_cut [11, 12] from 13 (fun p e w' => ∃ gC, p = .pointer (some ⟨gC, 0, none⟩) ∧ e = .int .i64 er ∧ w.heap.size ≤ gC ∧ gA ≠ gC ∧ gB ≠ gC ∧ Below w.heap.size w w' ∧ Blk w' gA 27 #[(Value.string ⟨((u).scheme).toArray⟩), (Value.string ⟨(((u).host).name).toArray⟩), (Value.bool ((u).host).v4), (Value.int .u32 (((u).host).addr : Int)), (Value.int .i64 (u).port), (Value.string ⟨((u).path).toArray⟩), (Value.bool (u).hasQuery), (Value.string ⟨((u).query).toArray⟩), (Value.string ⟨((u).rest).toArray⟩)] ∧ Blk w' gB 27 #[(Value.string ⟨((u).scheme).toArray⟩), (Value.string ⟨(((u).host).name).toArray⟩), (Value.bool ((u).host).v4), (Value.int .u32 (((u).host).addr : Int)), (Value.int .i64 (u).port), (Value.string ⟨((u).path).toArray⟩), (Value.bool (u).hasQuery), (Value.string ⟨((u).query).toArray⟩), (Value.string ⟨((u).rest).toArray⟩)] ∧ Blk w' gC 27 #[(Value.string ⟨((u).scheme).toArray⟩), (Value.string ⟨(((u).host).name).toArray⟩), (Value.bool ((u).host).v4), (Value.int .u32 (((u).host).addr : Int)), (Value.int .i64 (u).port), (Value.string ⟨((u).path).toArray⟩), (Value.bool (u).hasQuery), (Value.string ⟨((u).query).toArray⟩), (Value.string ⟨((u).rest).toArray⟩)])
              case first =>
                have hAl := hBA.lt
                have hAc := hBA.cell
                have hAf := hBA.frozen
                have hBl := hBB.lt
                have hBc := hBB.cell
                have hBf := hBB.frozen
                go_wp2_with (go_at_call 20; refine ( hbp.out _ (by (repeat' first | (with_reducible exact Below.refl _ _) | (with_reducible refine Below.setCell ?_ (by first | omega | (simp; done) | (simp; omega)) _) | (with_reducible refine Below.alloc ?_ (by first | omega | (simp; done) | (simp; omega)) _) | refine below_drewN ?_ _ | refine Below.drew ?_ | (refine below_thru (by assumption) ?_ (by first | omega | (simp; done) | (simp; omega))) | exact Below.refl _ _))).mono ?_; rintro e w1 ⟨rfl, hb⟩; obtain ⟨hc, hfz⟩ := bcell hb; have hz := hb.size; (try simp at hz); (try have hz0 : w.heap.size < w1.heap.size := by omega); (try have hz1 : w.heap.size + 1 < w1.heap.size := by omega); (try have hz2 : w.heap.size + 2 < w1.heap.size := by omega); (try have hz3 : w.heap.size + 3 < w1.heap.size := by omega); (try have hcA := fun o => hc w.heap.size o (by first | omega | (simp; omega))); (try have hcB := fun o => hc (w.heap.size + 1) o (by first | omega | (simp; omega))); (try have hcGg := fun o => hc g o (by first | omega | (simp; omega))); (try have hfGg := fun o => hfz g o (by first | omega | (simp; omega))); (try have hzGg : g < w1.heap.size := by omega); (try have hcGgA := fun o => hc gA o (by first | omega | (simp; omega))); (try have hfGgA := fun o => hfz gA o (by first | omega | (simp; omega))); (try have hzGgA : gA < w1.heap.size := by omega); (try have hcGgB := fun o => hc gB o (by first | omega | (simp; omega))); (try have hfGgB := fun o => hfz gB o (by first | omega | (simp; omega))); (try have hzGgB : gB < w1.heap.size := by omega); (try have hcGgV := fun o => hc gV o (by first | omega | (simp; omega))); (try have hfGgV := fun o => hfz gV o (by first | omega | (simp; omega))); (try have hzGgV : gV < w1.heap.size := by omega))
                go_meet
                case rel => exact ⟨_, rfl, rfl, by first | omega | (simp; omega), by first | omega | (simp; omega), by first | omega | (simp; omega), by (repeat' first | (with_reducible exact Below.refl _ _) | (with_reducible refine Below.setCell ?_ (by first | omega | (simp; done) | (simp; omega)) _) | (with_reducible refine Below.alloc ?_ (by first | omega | (simp; done) | (simp; omega)) _) | refine below_drewN ?_ _ | refine Below.drew ?_ | (refine below_thru (by assumption) ?_ (by first | omega | (simp; done) | (simp; omega))) | exact Below.refl _ _), by (repeat' first | (with_reducible assumption) | (with_reducible exact Blk.new _ _ _) | (with_reducible refine Blk.drew_ ?_) | (with_reducible refine Blk.alloc ?_ _) | (refine Blk.below ?_ (by assumption) (by first | omega | (simp; done) | (simp; omega)))), by (repeat' first | (with_reducible assumption) | (with_reducible exact Blk.new _ _ _) | (with_reducible refine Blk.drew_ ?_) | (with_reducible refine Blk.alloc ?_ _) | (refine Blk.below ?_ (by assumption) (by first | omega | (simp; done) | (simp; omega)))), by (repeat' first | (with_reducible assumption) | (with_reducible exact Blk.new _ _ _) | (with_reducible refine Blk.drew_ ?_) | (with_reducible refine Blk.alloc ?_ _) | (refine Blk.below ?_ (by assumption) (by first | omega | (simp; done) | (simp; omega))))⟩
              case rest =>
                clear hw hBA hBB
                obtain ⟨gC, rfl, rfl, hgC, hnAC, hnBC, hw, hBA, hBB, hBC⟩ := hcut
                have hAl := hBA.lt
                have hAc := hBA.cell
                have hAf := hBA.frozen
                have hBl := hBB.lt
                have hBc := hBB.cell
                have hBf := hBB.frozen
                have hCl := hBC.lt
                have hCc := hBC.cell
                have hCf := hBC.frozen
                go_wp2_with fail
                go_ret
                exact ⟨rfl, by (repeat' first | (with_reducible exact Below.refl _ _) | (with_reducible refine Below.setCell ?_ (by first | omega | (simp; done) | (simp; omega)) _) | (with_reducible refine Below.alloc ?_ (by first | omega | (simp; done) | (simp; omega)) _) | refine below_drewN ?_ _ | refine Below.drew ?_ | (refine below_thru (by assumption) ?_ (by first | omega | (simp; done) | (simp; omega))) | exact Below.refl _ _)⟩
end Go.Proofs.YthmgcnaoionmoaaDoor
