/- The law UrlpSchemes, walked. -/
import Derived.Test.YthmgcnaoionmoaaDoorAwake
import Derived.Test.YthmgcnaoionmoaaDoorEqs
import Derived.Test.YthmgcnaoionmoaaDoorPlain3
namespace Go.Proofs.YthmgcnaoionmoaaDoor
open Go.RowKit
attribute [local irreducible] Calls

set_option maxHeartbeats 4000000 in
set_option maxRecDepth 100000 in
theorem law_schemes (name path : List UInt8) (w : World) (hE : Env w) : Calls Tryd.prog 8 #[(Value.string ⟨(name).toArray⟩), (Value.string ⟨(path).toArray⟩)] w (Ret w (.bool true)) := by
  rcases Nat.lt_or_ge 900 name.length with hs | hs
  · go_enter Tryd.func8, Tryd.ntmps8
    go_wp2_with (go_at_call 19; refine ( awake _ (hE.below (by (repeat' first | (with_reducible exact Below.refl _ _) | (with_reducible refine Below.setCell ?_ (by first | omega | (simp; done) | (simp; omega)) _) | (with_reducible refine Below.alloc ?_ (by first | omega | (simp; done) | (simp; omega)) _) | refine below_drewN ?_ _ | refine Below.drew ?_ | (refine below_thru (by assumption) ?_ (by first | omega | (simp; done) | (simp; omega))) | exact Below.refl _ _)))).mono ?_; rintro e w1 ⟨rfl, hb⟩; obtain ⟨hc, hfz⟩ := bcell hb; have hz := hb.size; (try simp at hz); (try have hz0 : w.heap.size < w1.heap.size := by omega); (try have hz1 : w.heap.size + 1 < w1.heap.size := by omega); (try have hz2 : w.heap.size + 2 < w1.heap.size := by omega); (try have hz3 : w.heap.size + 3 < w1.heap.size := by omega); (try have hcA := fun o => hc w.heap.size o (by first | omega | (simp; omega))); (try have hcB := fun o => hc (w.heap.size + 1) o (by first | omega | (simp; omega))); (try have hcGg := fun o => hc g o (by first | omega | (simp; omega))); (try have hfGg := fun o => hfz g o (by first | omega | (simp; omega))); (try have hzGg : g < w1.heap.size := by omega); (try have hcGgA := fun o => hc gA o (by first | omega | (simp; omega))); (try have hfGgA := fun o => hfz gA o (by first | omega | (simp; omega))); (try have hzGgA : gA < w1.heap.size := by omega); (try have hcGgB := fun o => hc gB o (by first | omega | (simp; omega))); (try have hfGgB := fun o => hfz gB o (by first | omega | (simp; omega))); (try have hzGgB : gB < w1.heap.size := by omega); (try have hcGgV := fun o => hc gV o (by first | omega | (simp; omega))); (try have hfGgV := fun o => hfz gV o (by first | omega | (simp; omega))); (try have hzGgV : gV < w1.heap.size := by omega))
    go_ret
    exact ⟨rfl, by (repeat' first | (with_reducible exact Below.refl _ _) | (with_reducible refine Below.setCell ?_ (by first | omega | (simp; done) | (simp; omega)) _) | (with_reducible refine Below.alloc ?_ (by first | omega | (simp; done) | (simp; omega)) _) | refine below_drewN ?_ _ | refine Below.drew ?_ | (refine below_thru (by assumption) ?_ (by first | omega | (simp; done) | (simp; omega))) | exact Below.refl _ _)⟩
  rcases Nat.lt_or_ge 900 path.length with hs2 | hs2
  · go_enter Tryd.func8, Tryd.ntmps8
    go_wp2_with (go_at_call 19; refine ( awake _ (hE.below (by (repeat' first | (with_reducible exact Below.refl _ _) | (with_reducible refine Below.setCell ?_ (by first | omega | (simp; done) | (simp; omega)) _) | (with_reducible refine Below.alloc ?_ (by first | omega | (simp; done) | (simp; omega)) _) | refine below_drewN ?_ _ | refine Below.drew ?_ | (refine below_thru (by assumption) ?_ (by first | omega | (simp; done) | (simp; omega))) | exact Below.refl _ _)))).mono ?_; rintro e w1 ⟨rfl, hb⟩; obtain ⟨hc, hfz⟩ := bcell hb; have hz := hb.size; (try simp at hz); (try have hz0 : w.heap.size < w1.heap.size := by omega); (try have hz1 : w.heap.size + 1 < w1.heap.size := by omega); (try have hz2 : w.heap.size + 2 < w1.heap.size := by omega); (try have hz3 : w.heap.size + 3 < w1.heap.size := by omega); (try have hcA := fun o => hc w.heap.size o (by first | omega | (simp; omega))); (try have hcB := fun o => hc (w.heap.size + 1) o (by first | omega | (simp; omega))); (try have hcGg := fun o => hc g o (by first | omega | (simp; omega))); (try have hfGg := fun o => hfz g o (by first | omega | (simp; omega))); (try have hzGg : g < w1.heap.size := by omega); (try have hcGgA := fun o => hc gA o (by first | omega | (simp; omega))); (try have hfGgA := fun o => hfz gA o (by first | omega | (simp; omega))); (try have hzGgA : gA < w1.heap.size := by omega); (try have hcGgB := fun o => hc gB o (by first | omega | (simp; omega))); (try have hfGgB := fun o => hfz gB o (by first | omega | (simp; omega))); (try have hzGgB : gB < w1.heap.size := by omega); (try have hcGgV := fun o => hc gV o (by first | omega | (simp; omega))); (try have hfGgV := fun o => hfz gV o (by first | omega | (simp; omega))); (try have hzGgV : gV < w1.heap.size := by omega))
    go_ret
    exact ⟨rfl, by (repeat' first | (with_reducible exact Below.refl _ _) | (with_reducible refine Below.setCell ?_ (by first | omega | (simp; done) | (simp; omega)) _) | (with_reducible refine Below.alloc ?_ (by first | omega | (simp; done) | (simp; omega)) _) | refine below_drewN ?_ _ | refine Below.drew ?_ | (refine below_thru (by assumption) ?_ (by first | omega | (simp; done) | (simp; omega))) | exact Below.refl _ _)⟩
  have hs3 : (∀ c ∈ name, 32 < c.toNat ∧ c ≠ 58 ∧ c ≠ 47 ∧ c ≠ 63 ∧ c ≠ 35) → (path = [] ∨ path.head? = some 47 ∨ path.head? = some 63) → ∃ (er : Int) (u v : Gl.URL),
      (∀ W, Below w.heap.size w W → Calls Tryd.prog 20 #[(Value.string ⟨(104 :: 116 :: 116 :: 112 :: 115 :: 58 :: 47 :: 47 :: (name ++ path)).toArray⟩)] W (Ret W (.tuple #[(Value.agg #[(Value.string ⟨((u).scheme).toArray⟩), (Value.string ⟨(((u).host).name).toArray⟩), (Value.bool ((u).host).v4), (Value.int .u32 (((u).host).addr : Int)), (Value.int .i64 (u).port), (Value.string ⟨((u).path).toArray⟩), (Value.bool (u).hasQuery), (Value.string ⟨((u).query).toArray⟩), (Value.string ⟨((u).rest).toArray⟩)]), .int .i64 er]))) ∧
      (∀ W, Below w.heap.size w W → Calls Tryd.prog 20 #[(Value.string ⟨(72 :: 84 :: 84 :: 80 :: 83 :: 58 :: 47 :: 47 :: (name ++ 58 :: 52 :: 52 :: 51 :: path)).toArray⟩)] W (Ret W (.tuple #[(Value.agg #[(Value.string ⟨((u).scheme).toArray⟩), (Value.string ⟨(((u).host).name).toArray⟩), (Value.bool ((u).host).v4), (Value.int .u32 (((u).host).addr : Int)), (Value.int .i64 (u).port), (Value.string ⟨((u).path).toArray⟩), (Value.bool (u).hasQuery), (Value.string ⟨((u).query).toArray⟩), (Value.string ⟨((u).rest).toArray⟩)]), .int .i64 er]))) ∧
      (∀ W, Below w.heap.size w W → Calls Tryd.prog 20 #[(Value.string ⟨(104 :: 116 :: 116 :: 112 :: 58 :: 47 :: 47 :: (name ++ 58 :: 52 :: 52 :: 51 :: path)).toArray⟩)] W (Ret W (.tuple #[(Value.agg #[(Value.string ⟨((v).scheme).toArray⟩), (Value.string ⟨(((v).host).name).toArray⟩), (Value.bool ((v).host).v4), (Value.int .u32 (((v).host).addr : Int)), (Value.int .i64 (v).port), (Value.string ⟨((v).path).toArray⟩), (Value.bool (v).hasQuery), (Value.string ⟨((v).query).toArray⟩), (Value.string ⟨((v).rest).toArray⟩)]), .int .i64 er]))) ∧ (er = 0 → v.port = 443 ∧ v.path = u.path) := fun h1 h2 => by
    obtain ⟨h3, h4, h5⟩ := plain_schemes name path h1 h2 hs hs2
    refine ⟨_, _, (Gl.parse ([104, 116, 116, 112, 58, 47, 47] ++ name ++ [58, 52, 52, 51] ++ path)).1, fun W hW => urlp_parse (104 :: 116 :: 116 :: 112 :: 115 :: 58 :: 47 :: 47 :: (name ++ path)) W (by simp; omega) (hE.below hW), fun W hW => ?_, fun W hW => ?_, h5⟩
    · have := urlp_parse (72 :: 84 :: 84 :: 80 :: 83 :: 58 :: 47 :: 47 :: (name ++ 58 :: 52 :: 52 :: 51 :: path)) W (by simp; omega) (hE.below hW)
      rw [show (72 :: 84 :: 84 :: 80 :: 83 :: 58 :: 47 :: 47 :: (name ++ 58 :: 52 :: 52 :: 51 :: path) : List UInt8) = [72, 84, 84, 80, 83, 58, 47, 47] ++ name ++ [58, 52, 52, 51] ++ path by simp] at this ⊢
      rw [← h3] at this
      exact this
    · have := urlp_parse (104 :: 116 :: 116 :: 112 :: 58 :: 47 :: 47 :: (name ++ 58 :: 52 :: 52 :: 51 :: path)) W (by simp; omega) (hE.below hW)
      rw [show (104 :: 116 :: 116 :: 112 :: 58 :: 47 :: 47 :: (name ++ 58 :: 52 :: 52 :: 51 :: path) : List UInt8) = [104, 116, 116, 112, 58, 47, 47] ++ name ++ [58, 52, 52, 51] ++ path by simp] at this ⊢
      rw [h4] at this
      exact this
  replace hs3 := Lib.hid hs3
  go_enter Tryd.func8, Tryd.ntmps8
  go_wp2_with (go_at_call 19; refine ( awake _ (hE.below (by (repeat' first | (with_reducible exact Below.refl _ _) | (with_reducible refine Below.setCell ?_ (by first | omega | (simp; done) | (simp; omega)) _) | (with_reducible refine Below.alloc ?_ (by first | omega | (simp; done) | (simp; omega)) _) | refine below_drewN ?_ _ | refine Below.drew ?_ | (refine below_thru (by assumption) ?_ (by first | omega | (simp; done) | (simp; omega))) | exact Below.refl _ _)))).mono ?_; rintro e w1 ⟨rfl, hb⟩; obtain ⟨hc, hfz⟩ := bcell hb; have hz := hb.size; (try simp at hz); (try have hz0 : w.heap.size < w1.heap.size := by omega); (try have hz1 : w.heap.size + 1 < w1.heap.size := by omega); (try have hz2 : w.heap.size + 2 < w1.heap.size := by omega); (try have hz3 : w.heap.size + 3 < w1.heap.size := by omega); (try have hcA := fun o => hc w.heap.size o (by first | omega | (simp; omega))); (try have hcB := fun o => hc (w.heap.size + 1) o (by first | omega | (simp; omega))); (try have hcGg := fun o => hc g o (by first | omega | (simp; omega))); (try have hfGg := fun o => hfz g o (by first | omega | (simp; omega))); (try have hzGg : g < w1.heap.size := by omega); (try have hcGgA := fun o => hc gA o (by first | omega | (simp; omega))); (try have hfGgA := fun o => hfz gA o (by first | omega | (simp; omega))); (try have hzGgA : gA < w1.heap.size := by omega); (try have hcGgB := fun o => hc gB o (by first | omega | (simp; omega))); (try have hfGgB := fun o => hfz gB o (by first | omega | (simp; omega))); (try have hzGgB : gB < w1.heap.size := by omega); (try have hcGgV := fun o => hc gV o (by first | omega | (simp; omega))); (try have hfGgV := fun o => hfz gV o (by first | omega | (simp; omega))); (try have hzGgV : gV < w1.heap.size := by omega))
  go_loop [6] (fun i => ∃ k : Nat, k ≤ name.length ∧ i = .int .i64 k ∧ Hid (∀ c ∈ name.take k, 32 < c.toNat ∧ c ≠ 58 ∧ c ≠ 47 ∧ c ≠ 63 ∧ c ≠ 35)) (fun i => name.length - (intOf i).toNat)
  case atStart => exact ⟨0, Nat.zero_le _, rfl, Lib.hid (by simp)⟩
  case round =>
    obtain ⟨k, hk, rfl, hr⟩ := hrel
    by_cases hlt : k < name.length
    · have h256 := (name[k]).toNat_lt
      by_cases z58 : name[k] = 58
      · have z58' : ((name[k].toNat : Int) == 58) = true := by rw [z58]; rfl
        clear z58
        go_wp2_with fail
        go_ret
        exact ⟨rfl, by (repeat' first | (with_reducible exact Below.refl _ _) | (with_reducible refine Below.setCell ?_ (by first | omega | (simp; done) | (simp; omega)) _) | (with_reducible refine Below.alloc ?_ (by first | omega | (simp; done) | (simp; omega)) _) | refine below_drewN ?_ _ | refine Below.drew ?_ | (refine below_thru (by assumption) ?_ (by first | omega | (simp; done) | (simp; omega))) | exact Below.refl _ _)⟩
      by_cases z47 : name[k] = 47
      · have z58' : ((name[k].toNat : Int) == 58) = false := by
          rw [beq_eq_false_iff_ne]; intro h; exact z58 (by apply UInt8.toNat_inj.1; show name[k].toNat = 58; omega)
        clear z58
        have z47' : ((name[k].toNat : Int) == 47) = true := by rw [z47]; rfl
        clear z47
        go_wp2_with fail
        go_ret
        exact ⟨rfl, by (repeat' first | (with_reducible exact Below.refl _ _) | (with_reducible refine Below.setCell ?_ (by first | omega | (simp; done) | (simp; omega)) _) | (with_reducible refine Below.alloc ?_ (by first | omega | (simp; done) | (simp; omega)) _) | refine below_drewN ?_ _ | refine Below.drew ?_ | (refine below_thru (by assumption) ?_ (by first | omega | (simp; done) | (simp; omega))) | exact Below.refl _ _)⟩
      by_cases z63 : name[k] = 63
      · have z58' : ((name[k].toNat : Int) == 58) = false := by
          rw [beq_eq_false_iff_ne]; intro h; exact z58 (by apply UInt8.toNat_inj.1; show name[k].toNat = 58; omega)
        clear z58
        have z47' : ((name[k].toNat : Int) == 47) = false := by
          rw [beq_eq_false_iff_ne]; intro h; exact z47 (by apply UInt8.toNat_inj.1; show name[k].toNat = 47; omega)
        clear z47
        have z63' : ((name[k].toNat : Int) == 63) = true := by rw [z63]; rfl
        clear z63
        go_wp2_with fail
        go_ret
        exact ⟨rfl, by (repeat' first | (with_reducible exact Below.refl _ _) | (with_reducible refine Below.setCell ?_ (by first | omega | (simp; done) | (simp; omega)) _) | (with_reducible refine Below.alloc ?_ (by first | omega | (simp; done) | (simp; omega)) _) | refine below_drewN ?_ _ | refine Below.drew ?_ | (refine below_thru (by assumption) ?_ (by first | omega | (simp; done) | (simp; omega))) | exact Below.refl _ _)⟩
      by_cases z35 : name[k] = 35
      · have z58' : ((name[k].toNat : Int) == 58) = false := by
          rw [beq_eq_false_iff_ne]; intro h; exact z58 (by apply UInt8.toNat_inj.1; show name[k].toNat = 58; omega)
        clear z58
        have z47' : ((name[k].toNat : Int) == 47) = false := by
          rw [beq_eq_false_iff_ne]; intro h; exact z47 (by apply UInt8.toNat_inj.1; show name[k].toNat = 47; omega)
        clear z47
        have z63' : ((name[k].toNat : Int) == 63) = false := by
          rw [beq_eq_false_iff_ne]; intro h; exact z63 (by apply UInt8.toNat_inj.1; show name[k].toNat = 63; omega)
        clear z63
        have z35' : ((name[k].toNat : Int) == 35) = true := by rw [z35]; rfl
        clear z35
        go_wp2_with fail
        go_ret
        exact ⟨rfl, by (repeat' first | (with_reducible exact Below.refl _ _) | (with_reducible refine Below.setCell ?_ (by first | omega | (simp; done) | (simp; omega)) _) | (with_reducible refine Below.alloc ?_ (by first | omega | (simp; done) | (simp; omega)) _) | refine below_drewN ?_ _ | refine Below.drew ?_ | (refine below_thru (by assumption) ?_ (by first | omega | (simp; done) | (simp; omega))) | exact Below.refl _ _)⟩
      by_cases hx : (name[k].toNat : Int) ≤ 32
      · have z58' : ((name[k].toNat : Int) == 58) = false := by
          rw [beq_eq_false_iff_ne]; intro h; exact z58 (by apply UInt8.toNat_inj.1; show name[k].toNat = 58; omega)
        clear z58
        have z47' : ((name[k].toNat : Int) == 47) = false := by
          rw [beq_eq_false_iff_ne]; intro h; exact z47 (by apply UInt8.toNat_inj.1; show name[k].toNat = 47; omega)
        clear z47
        have z63' : ((name[k].toNat : Int) == 63) = false := by
          rw [beq_eq_false_iff_ne]; intro h; exact z63 (by apply UInt8.toNat_inj.1; show name[k].toNat = 63; omega)
        clear z63
        have z35' : ((name[k].toNat : Int) == 35) = false := by
          rw [beq_eq_false_iff_ne]; intro h; exact z35 (by apply UInt8.toNat_inj.1; show name[k].toNat = 35; omega)
        clear z35
        go_wp2_with fail
        go_ret
        exact ⟨rfl, by (repeat' first | (with_reducible exact Below.refl _ _) | (with_reducible refine Below.setCell ?_ (by first | omega | (simp; done) | (simp; omega)) _) | (with_reducible refine Below.alloc ?_ (by first | omega | (simp; done) | (simp; omega)) _) | refine below_drewN ?_ _ | refine Below.drew ?_ | (refine below_thru (by assumption) ?_ (by first | omega | (simp; done) | (simp; omega))) | exact Below.refl _ _)⟩
      have hf : Hid (∀ c ∈ name.take (k + 1), 32 < c.toNat ∧ c ≠ 58 ∧ c ≠ 47 ∧ c ≠ 63 ∧ c ≠ 35) := Lib.hid (by
        intro c hc
        rw [List.take_succ_eq_append_getElem hlt, List.mem_append] at hc
        rcases hc with hc | hc
        · exact hr.out c hc
        · obtain rfl : c = name[k] := by simpa using hc
          exact ⟨by omega, z58, z47, z63, z35⟩)
      have z58' : ((name[k].toNat : Int) == 58) = false := by
        rw [beq_eq_false_iff_ne]; intro h; exact z58 (by apply UInt8.toNat_inj.1; show name[k].toNat = 58; omega)
      clear z58
      have z47' : ((name[k].toNat : Int) == 47) = false := by
        rw [beq_eq_false_iff_ne]; intro h; exact z47 (by apply UInt8.toNat_inj.1; show name[k].toNat = 47; omega)
      clear z47
      have z63' : ((name[k].toNat : Int) == 63) = false := by
        rw [beq_eq_false_iff_ne]; intro h; exact z63 (by apply UInt8.toNat_inj.1; show name[k].toNat = 63; omega)
      clear z63
      have z35' : ((name[k].toNat : Int) == 35) = false := by
        rw [beq_eq_false_iff_ne]; intro h; exact z35 (by apply UInt8.toNat_inj.1; show name[k].toNat = 35; omega)
      clear z35
      go_wp2_with fail
      go_round
      case rel => exact ⟨k + 1, by omega, by go_num, hf⟩
      case measure => simp [intOf]; omega
    · have hall : ∀ c ∈ name, 32 < c.toNat ∧ c ≠ 58 ∧ c ≠ 47 ∧ c ≠ 63 ∧ c ≠ 35 := by
        have := hr.out
        rwa [List.take_of_length_le (by omega)] at this
      obtain rfl : k = name.length := by omega
      have hpc : (path.length = 0) ∨ (∃ h : 0 < path.length, path[0] = 47) ∨ (∃ h : 0 < path.length, path[0] = 63) ∨ (∃ h : 0 < path.length, path[0] ≠ 47 ∧ path[0] ≠ 63) := by
        by_cases h : 0 < path.length
        · right
          by_cases h1 : path[0] = 47
          · exact Or.inl ⟨h, h1⟩
          · by_cases h2 : path[0] = 63
            · exact Or.inr (Or.inl ⟨h, h2⟩)
            · exact Or.inr (Or.inr ⟨h, h1, h2⟩)
        · left; omega
      have hkey : (path = [] ∨ path.head? = some 47 ∨ path.head? = some 63) → _ := fun h => hs3.out hall h
      clear hall hr hlt
      rcases hpc with hp0 | ⟨hp0, hp1⟩ | ⟨hp0, hp1⟩ | ⟨hp0, hp1, hp2⟩
      · have hk2 := hkey (Or.inl (List.eq_nil_of_length_eq_zero hp0))
        clear hkey
        obtain ⟨er, u, v, ha, hb, hc, hv⟩ := hk2
        replace ha := Lib.hid ha
        replace hb := Lib.hid hb
        replace hc := Lib.hid hc
        replace hv := Lib.hid hv
        go_upto_region 11 with fail
        go_cut [7, 8] from 13 (fun p e w' => ∃ gA, p = .pointer (some ⟨gA, 0, none⟩) ∧ e = .int .i64 er ∧ w.heap.size ≤ gA ∧ Below w.heap.size w w' ∧ Blk w' gA 27 #[(Value.string ⟨((u).scheme).toArray⟩), (Value.string ⟨(((u).host).name).toArray⟩), (Value.bool ((u).host).v4), (Value.int .u32 (((u).host).addr : Int)), (Value.int .i64 (u).port), (Value.string ⟨((u).path).toArray⟩), (Value.bool (u).hasQuery), (Value.string ⟨((u).query).toArray⟩), (Value.string ⟨((u).rest).toArray⟩)])
        case first =>
          go_wp2_with (go_at_call 20; refine ( ha.out _ (by (repeat' first | (with_reducible exact Below.refl _ _) | (with_reducible refine Below.setCell ?_ (by first | omega | (simp; done) | (simp; omega)) _) | (with_reducible refine Below.alloc ?_ (by first | omega | (simp; done) | (simp; omega)) _) | refine below_drewN ?_ _ | refine Below.drew ?_ | (refine below_thru (by assumption) ?_ (by first | omega | (simp; done) | (simp; omega))) | exact Below.refl _ _))).mono ?_; rintro e w1 ⟨rfl, hb⟩; obtain ⟨hc, hfz⟩ := bcell hb; have hz := hb.size; (try simp at hz); (try have hz0 : w.heap.size < w1.heap.size := by omega); (try have hz1 : w.heap.size + 1 < w1.heap.size := by omega); (try have hz2 : w.heap.size + 2 < w1.heap.size := by omega); (try have hz3 : w.heap.size + 3 < w1.heap.size := by omega); (try have hcA := fun o => hc w.heap.size o (by first | omega | (simp; omega))); (try have hcB := fun o => hc (w.heap.size + 1) o (by first | omega | (simp; omega))); (try have hcGg := fun o => hc g o (by first | omega | (simp; omega))); (try have hfGg := fun o => hfz g o (by first | omega | (simp; omega))); (try have hzGg : g < w1.heap.size := by omega); (try have hcGgA := fun o => hc gA o (by first | omega | (simp; omega))); (try have hfGgA := fun o => hfz gA o (by first | omega | (simp; omega))); (try have hzGgA : gA < w1.heap.size := by omega); (try have hcGgB := fun o => hc gB o (by first | omega | (simp; omega))); (try have hfGgB := fun o => hfz gB o (by first | omega | (simp; omega))); (try have hzGgB : gB < w1.heap.size := by omega); (try have hcGgV := fun o => hc gV o (by first | omega | (simp; omega))); (try have hfGgV := fun o => hfz gV o (by first | omega | (simp; omega))); (try have hzGgV : gV < w1.heap.size := by omega))
          go_meet
          case rel => exact ⟨_, rfl, rfl, by first | omega | (simp; omega), by (repeat' first | (with_reducible exact Below.refl _ _) | (with_reducible refine Below.setCell ?_ (by first | omega | (simp; done) | (simp; omega)) _) | (with_reducible refine Below.alloc ?_ (by first | omega | (simp; done) | (simp; omega)) _) | refine below_drewN ?_ _ | refine Below.drew ?_ | (refine below_thru (by assumption) ?_ (by first | omega | (simp; done) | (simp; omega))) | exact Below.refl _ _), by (repeat' first | (with_reducible assumption) | (with_reducible exact Blk.new _ _ _) | (with_reducible refine Blk.drew_ ?_) | (with_reducible refine Blk.alloc ?_ _) | (refine Blk.below ?_ (by assumption) (by first | omega | (simp; done) | (simp; omega))))⟩
        case rest =>
          obtain ⟨gA, rfl, rfl, hgA, hw, hBA⟩ := hcut
          go_upto_region 12 with fail
          go_cut [9, 10] from 13 (fun p e w' => ∃ gB, p = .pointer (some ⟨gB, 0, none⟩) ∧ e = .int .i64 er ∧ w.heap.size ≤ gB ∧ gA ≠ gB ∧ Below w.heap.size w w' ∧ Blk w' gA 27 #[(Value.string ⟨((u).scheme).toArray⟩), (Value.string ⟨(((u).host).name).toArray⟩), (Value.bool ((u).host).v4), (Value.int .u32 (((u).host).addr : Int)), (Value.int .i64 (u).port), (Value.string ⟨((u).path).toArray⟩), (Value.bool (u).hasQuery), (Value.string ⟨((u).query).toArray⟩), (Value.string ⟨((u).rest).toArray⟩)] ∧ Blk w' gB 27 #[(Value.string ⟨((u).scheme).toArray⟩), (Value.string ⟨(((u).host).name).toArray⟩), (Value.bool ((u).host).v4), (Value.int .u32 (((u).host).addr : Int)), (Value.int .i64 (u).port), (Value.string ⟨((u).path).toArray⟩), (Value.bool (u).hasQuery), (Value.string ⟨((u).query).toArray⟩), (Value.string ⟨((u).rest).toArray⟩)])
          case first =>
            have hAl := hBA.lt
            have hAc := hBA.cell
            have hAf := hBA.frozen
            go_wp2_with (go_at_call 20; refine ( hb.out _ (by (repeat' first | (with_reducible exact Below.refl _ _) | (with_reducible refine Below.setCell ?_ (by first | omega | (simp; done) | (simp; omega)) _) | (with_reducible refine Below.alloc ?_ (by first | omega | (simp; done) | (simp; omega)) _) | refine below_drewN ?_ _ | refine Below.drew ?_ | (refine below_thru (by assumption) ?_ (by first | omega | (simp; done) | (simp; omega))) | exact Below.refl _ _))).mono ?_; rintro e w1 ⟨rfl, hb⟩; obtain ⟨hc, hfz⟩ := bcell hb; have hz := hb.size; (try simp at hz); (try have hz0 : w.heap.size < w1.heap.size := by omega); (try have hz1 : w.heap.size + 1 < w1.heap.size := by omega); (try have hz2 : w.heap.size + 2 < w1.heap.size := by omega); (try have hz3 : w.heap.size + 3 < w1.heap.size := by omega); (try have hcA := fun o => hc w.heap.size o (by first | omega | (simp; omega))); (try have hcB := fun o => hc (w.heap.size + 1) o (by first | omega | (simp; omega))); (try have hcGg := fun o => hc g o (by first | omega | (simp; omega))); (try have hfGg := fun o => hfz g o (by first | omega | (simp; omega))); (try have hzGg : g < w1.heap.size := by omega); (try have hcGgA := fun o => hc gA o (by first | omega | (simp; omega))); (try have hfGgA := fun o => hfz gA o (by first | omega | (simp; omega))); (try have hzGgA : gA < w1.heap.size := by omega); (try have hcGgB := fun o => hc gB o (by first | omega | (simp; omega))); (try have hfGgB := fun o => hfz gB o (by first | omega | (simp; omega))); (try have hzGgB : gB < w1.heap.size := by omega); (try have hcGgV := fun o => hc gV o (by first | omega | (simp; omega))); (try have hfGgV := fun o => hfz gV o (by first | omega | (simp; omega))); (try have hzGgV : gV < w1.heap.size := by omega))
            go_meet
            case rel => exact ⟨_, rfl, rfl, by first | omega | (simp; omega), by first | omega | (simp; omega), by (repeat' first | (with_reducible exact Below.refl _ _) | (with_reducible refine Below.setCell ?_ (by first | omega | (simp; done) | (simp; omega)) _) | (with_reducible refine Below.alloc ?_ (by first | omega | (simp; done) | (simp; omega)) _) | refine below_drewN ?_ _ | refine Below.drew ?_ | (refine below_thru (by assumption) ?_ (by first | omega | (simp; done) | (simp; omega))) | exact Below.refl _ _), by (repeat' first | (with_reducible assumption) | (with_reducible exact Blk.new _ _ _) | (with_reducible refine Blk.drew_ ?_) | (with_reducible refine Blk.alloc ?_ _) | (refine Blk.below ?_ (by assumption) (by first | omega | (simp; done) | (simp; omega)))), by (repeat' first | (with_reducible assumption) | (with_reducible exact Blk.new _ _ _) | (with_reducible refine Blk.drew_ ?_) | (with_reducible refine Blk.alloc ?_ _) | (refine Blk.below ?_ (by assumption) (by first | omega | (simp; done) | (simp; omega))))⟩
          case rest =>
            clear hw hBA
            obtain ⟨gB, rfl, rfl, hgB, hnAB, hw, hBA, hBB⟩ := hcut
            go_upto_region 13 with fail
            go_cut [11, 12] from 13 (fun p e w' => ∃ gC, p = .pointer (some ⟨gC, 0, none⟩) ∧ e = .int .i64 er ∧ w.heap.size ≤ gC ∧ gA ≠ gC ∧ gB ≠ gC ∧ Below w.heap.size w w' ∧ Blk w' gA 27 #[(Value.string ⟨((u).scheme).toArray⟩), (Value.string ⟨(((u).host).name).toArray⟩), (Value.bool ((u).host).v4), (Value.int .u32 (((u).host).addr : Int)), (Value.int .i64 (u).port), (Value.string ⟨((u).path).toArray⟩), (Value.bool (u).hasQuery), (Value.string ⟨((u).query).toArray⟩), (Value.string ⟨((u).rest).toArray⟩)] ∧ Blk w' gB 27 #[(Value.string ⟨((u).scheme).toArray⟩), (Value.string ⟨(((u).host).name).toArray⟩), (Value.bool ((u).host).v4), (Value.int .u32 (((u).host).addr : Int)), (Value.int .i64 (u).port), (Value.string ⟨((u).path).toArray⟩), (Value.bool (u).hasQuery), (Value.string ⟨((u).query).toArray⟩), (Value.string ⟨((u).rest).toArray⟩)] ∧ Blk w' gC 27 #[(Value.string ⟨((v).scheme).toArray⟩), (Value.string ⟨(((v).host).name).toArray⟩), (Value.bool ((v).host).v4), (Value.int .u32 (((v).host).addr : Int)), (Value.int .i64 (v).port), (Value.string ⟨((v).path).toArray⟩), (Value.bool (v).hasQuery), (Value.string ⟨((v).query).toArray⟩), (Value.string ⟨((v).rest).toArray⟩)])
            case first =>
              have hAl := hBA.lt
              have hAc := hBA.cell
              have hAf := hBA.frozen
              have hBl := hBB.lt
              have hBc := hBB.cell
              have hBf := hBB.frozen
              go_wp2_with (go_at_call 20; refine ( hc.out _ (by (repeat' first | (with_reducible exact Below.refl _ _) | (with_reducible refine Below.setCell ?_ (by first | omega | (simp; done) | (simp; omega)) _) | (with_reducible refine Below.alloc ?_ (by first | omega | (simp; done) | (simp; omega)) _) | refine below_drewN ?_ _ | refine Below.drew ?_ | (refine below_thru (by assumption) ?_ (by first | omega | (simp; done) | (simp; omega))) | exact Below.refl _ _))).mono ?_; rintro e w1 ⟨rfl, hb⟩; obtain ⟨hc, hfz⟩ := bcell hb; have hz := hb.size; (try simp at hz); (try have hz0 : w.heap.size < w1.heap.size := by omega); (try have hz1 : w.heap.size + 1 < w1.heap.size := by omega); (try have hz2 : w.heap.size + 2 < w1.heap.size := by omega); (try have hz3 : w.heap.size + 3 < w1.heap.size := by omega); (try have hcA := fun o => hc w.heap.size o (by first | omega | (simp; omega))); (try have hcB := fun o => hc (w.heap.size + 1) o (by first | omega | (simp; omega))); (try have hcGg := fun o => hc g o (by first | omega | (simp; omega))); (try have hfGg := fun o => hfz g o (by first | omega | (simp; omega))); (try have hzGg : g < w1.heap.size := by omega); (try have hcGgA := fun o => hc gA o (by first | omega | (simp; omega))); (try have hfGgA := fun o => hfz gA o (by first | omega | (simp; omega))); (try have hzGgA : gA < w1.heap.size := by omega); (try have hcGgB := fun o => hc gB o (by first | omega | (simp; omega))); (try have hfGgB := fun o => hfz gB o (by first | omega | (simp; omega))); (try have hzGgB : gB < w1.heap.size := by omega); (try have hcGgV := fun o => hc gV o (by first | omega | (simp; omega))); (try have hfGgV := fun o => hfz gV o (by first | omega | (simp; omega))); (try have hzGgV : gV < w1.heap.size := by omega))
              go_meet
              case rel => exact ⟨_, rfl, rfl, by first | omega | (simp; omega), by first | omega | (simp; omega), by first | omega | (simp; omega), by (repeat' first | (with_reducible exact Below.refl _ _) | (with_reducible refine Below.setCell ?_ (by first | omega | (simp; done) | (simp; omega)) _) | (with_reducible refine Below.alloc ?_ (by first | omega | (simp; done) | (simp; omega)) _) | refine below_drewN ?_ _ | refine Below.drew ?_ | (refine below_thru (by assumption) ?_ (by first | omega | (simp; done) | (simp; omega))) | exact Below.refl _ _), by (repeat' first | (with_reducible assumption) | (with_reducible exact Blk.new _ _ _) | (with_reducible refine Blk.drew_ ?_) | (with_reducible refine Blk.alloc ?_ _) | (refine Blk.below ?_ (by assumption) (by first | omega | (simp; done) | (simp; omega)))), by (repeat' first | (with_reducible assumption) | (with_reducible exact Blk.new _ _ _) | (with_reducible refine Blk.drew_ ?_) | (with_reducible refine Blk.alloc ?_ _) | (refine Blk.below ?_ (by assumption) (by first | omega | (simp; done) | (simp; omega)))), by (repeat' first | (with_reducible assumption) | (with_reducible exact Blk.new _ _ _) | (with_reducible refine Blk.drew_ ?_) | (with_reducible refine Blk.alloc ?_ _) | (refine Blk.below ?_ (by assumption) (by first | omega | (simp; done) | (simp; omega))))⟩
            case rest =>
              clear hw hBA hBB
              obtain ⟨gC, rfl, rfl, hgC, hnAC, hnBC, hw, hBA, hBB, hBC⟩ := hcut
              have hAl := hBA.lt
              have hAc := hBA.cell
              have hAf := hBA.frozen
              have hBl := hBB.lt
              have hBc := hBB.cell
              have hBf := hBB.frozen
              have hCl := hBC.lt
              have hCc := hBC.cell
              have hCf := hBC.frozen
              by_cases he : er = 0
              · subst he
                obtain ⟨hv1, hv2⟩ := hv.out rfl
                go_wp2_with fail
                go_ret
                exact ⟨rfl, by (repeat' first | (with_reducible exact Below.refl _ _) | (with_reducible refine Below.setCell ?_ (by first | omega | (simp; done) | (simp; omega)) _) | (with_reducible refine Below.alloc ?_ (by first | omega | (simp; done) | (simp; omega)) _) | refine below_drewN ?_ _ | refine Below.drew ?_ | (refine below_thru (by assumption) ?_ (by first | omega | (simp; done) | (simp; omega))) | exact Below.refl _ _)⟩
              · have he2 : (er != 0) = true := by simpa using he
                go_wp2_with fail
                go_ret
                exact ⟨rfl, by (repeat' first | (with_reducible exact Below.refl _ _) | (with_reducible refine Below.setCell ?_ (by first | omega | (simp; done) | (simp; omega)) _) | (with_reducible refine Below.alloc ?_ (by first | omega | (simp; done) | (simp; omega)) _) | refine below_drewN ?_ _ | refine Below.drew ?_ | (refine below_thru (by assumption) ?_ (by first | omega | (simp; done) | (simp; omega))) | exact Below.refl _ _)⟩
      · have hk2 := hkey (Or.inr (Or.inl (by cases path with | nil => simp at hp0 | cons a b => simpa using hp1)))
        clear hkey
        have hp1' : ((path[0].toNat : Int) != 47) = false := by rw [hp1]; rfl
        clear hp1
        obtain ⟨er, u, v, ha, hb, hc, hv⟩ := hk2
        replace ha := Lib.hid ha
        replace hb := Lib.hid hb
        replace hc := Lib.hid hc
        replace hv := Lib.hid hv
        go_upto_region 11 with fail
        go_cut [7, 8] from 13 (fun p e w' => ∃ gA, p = .pointer (some ⟨gA, 0, none⟩) ∧ e = .int .i64 er ∧ w.heap.size ≤ gA ∧ Below w.heap.size w w' ∧ Blk w' gA 27 #[(Value.string ⟨((u).scheme).toArray⟩), (Value.string ⟨(((u).host).name).toArray⟩), (Value.bool ((u).host).v4), (Value.int .u32 (((u).host).addr : Int)), (Value.int .i64 (u).port), (Value.string ⟨((u).path).toArray⟩), (Value.bool (u).hasQuery), (Value.string ⟨((u).query).toArray⟩), (Value.string ⟨((u).rest).toArray⟩)])
        case first =>
          go_wp2_with (go_at_call 20; refine ( ha.out _ (by (repeat' first | (with_reducible exact Below.refl _ _) | (with_reducible refine Below.setCell ?_ (by first | omega | (simp; done) | (simp; omega)) _) | (with_reducible refine Below.alloc ?_ (by first | omega | (simp; done) | (simp; omega)) _) | refine below_drewN ?_ _ | refine Below.drew ?_ | (refine below_thru (by assumption) ?_ (by first | omega | (simp; done) | (simp; omega))) | exact Below.refl _ _))).mono ?_; rintro e w1 ⟨rfl, hb⟩; obtain ⟨hc, hfz⟩ := bcell hb; have hz := hb.size; (try simp at hz); (try have hz0 : w.heap.size < w1.heap.size := by omega); (try have hz1 : w.heap.size + 1 < w1.heap.size := by omega); (try have hz2 : w.heap.size + 2 < w1.heap.size := by omega); (try have hz3 : w.heap.size + 3 < w1.heap.size := by omega); (try have hcA := fun o => hc w.heap.size o (by first | omega | (simp; omega))); (try have hcB := fun o => hc (w.heap.size + 1) o (by first | omega | (simp; omega))); (try have hcGg := fun o => hc g o (by first | omega | (simp; omega))); (try have hfGg := fun o => hfz g o (by first | omega | (simp; omega))); (try have hzGg : g < w1.heap.size := by omega); (try have hcGgA := fun o => hc gA o (by first | omega | (simp; omega))); (try have hfGgA := fun o => hfz gA o (by first | omega | (simp; omega))); (try have hzGgA : gA < w1.heap.size := by omega); (try have hcGgB := fun o => hc gB o (by first | omega | (simp; omega))); (try have hfGgB := fun o => hfz gB o (by first | omega | (simp; omega))); (try have hzGgB : gB < w1.heap.size := by omega); (try have hcGgV := fun o => hc gV o (by first | omega | (simp; omega))); (try have hfGgV := fun o => hfz gV o (by first | omega | (simp; omega))); (try have hzGgV : gV < w1.heap.size := by omega))
          go_meet
          case rel => exact ⟨_, rfl, rfl, by first | omega | (simp; omega), by (repeat' first | (with_reducible exact Below.refl _ _) | (with_reducible refine Below.setCell ?_ (by first | omega | (simp; done) | (simp; omega)) _) | (with_reducible refine Below.alloc ?_ (by first | omega | (simp; done) | (simp; omega)) _) | refine below_drewN ?_ _ | refine Below.drew ?_ | (refine below_thru (by assumption) ?_ (by first | omega | (simp; done) | (simp; omega))) | exact Below.refl _ _), by (repeat' first | (with_reducible assumption) | (with_reducible exact Blk.new _ _ _) | (with_reducible refine Blk.drew_ ?_) | (with_reducible refine Blk.alloc ?_ _) | (refine Blk.below ?_ (by assumption) (by first | omega | (simp; done) | (simp; omega))))⟩
        case rest =>
          obtain ⟨gA, rfl, rfl, hgA, hw, hBA⟩ := hcut
          go_upto_region 12 with fail
          go_cut [9, 10] from 13 (fun p e w' => ∃ gB, p = .pointer (some ⟨gB, 0, none⟩) ∧ e = .int .i64 er ∧ w.heap.size ≤ gB ∧ gA ≠ gB ∧ Below w.heap.size w w' ∧ Blk w' gA 27 #[(Value.string ⟨((u).scheme).toArray⟩), (Value.string ⟨(((u).host).name).toArray⟩), (Value.bool ((u).host).v4), (Value.int .u32 (((u).host).addr : Int)), (Value.int .i64 (u).port), (Value.string ⟨((u).path).toArray⟩), (Value.bool (u).hasQuery), (Value.string ⟨((u).query).toArray⟩), (Value.string ⟨((u).rest).toArray⟩)] ∧ Blk w' gB 27 #[(Value.string ⟨((u).scheme).toArray⟩), (Value.string ⟨(((u).host).name).toArray⟩), (Value.bool ((u).host).v4), (Value.int .u32 (((u).host).addr : Int)), (Value.int .i64 (u).port), (Value.string ⟨((u).path).toArray⟩), (Value.bool (u).hasQuery), (Value.string ⟨((u).query).toArray⟩), (Value.string ⟨((u).rest).toArray⟩)])
          case first =>
            have hAl := hBA.lt
            have hAc := hBA.cell
            have hAf := hBA.frozen
            go_wp2_with (go_at_call 20; refine ( hb.out _ (by (repeat' first | (with_reducible exact Below.refl _ _) | (with_reducible refine Below.setCell ?_ (by first | omega | (simp; done) | (simp; omega)) _) | (with_reducible refine Below.alloc ?_ (by first | omega | (simp; done) | (simp; omega)) _) | refine below_drewN ?_ _ | refine Below.drew ?_ | (refine below_thru (by assumption) ?_ (by first | omega | (simp; done) | (simp; omega))) | exact Below.refl _ _))).mono ?_; rintro e w1 ⟨rfl, hb⟩; obtain ⟨hc, hfz⟩ := bcell hb; have hz := hb.size; (try simp at hz); (try have hz0 : w.heap.size < w1.heap.size := by omega); (try have hz1 : w.heap.size + 1 < w1.heap.size := by omega); (try have hz2 : w.heap.size + 2 < w1.heap.size := by omega); (try have hz3 : w.heap.size + 3 < w1.heap.size := by omega); (try have hcA := fun o => hc w.heap.size o (by first | omega | (simp; omega))); (try have hcB := fun o => hc (w.heap.size + 1) o (by first | omega | (simp; omega))); (try have hcGg := fun o => hc g o (by first | omega | (simp; omega))); (try have hfGg := fun o => hfz g o (by first | omega | (simp; omega))); (try have hzGg : g < w1.heap.size := by omega); (try have hcGgA := fun o => hc gA o (by first | omega | (simp; omega))); (try have hfGgA := fun o => hfz gA o (by first | omega | (simp; omega))); (try have hzGgA : gA < w1.heap.size := by omega); (try have hcGgB := fun o => hc gB o (by first | omega | (simp; omega))); (try have hfGgB := fun o => hfz gB o (by first | omega | (simp; omega))); (try have hzGgB : gB < w1.heap.size := by omega); (try have hcGgV := fun o => hc gV o (by first | omega | (simp; omega))); (try have hfGgV := fun o => hfz gV o (by first | omega | (simp; omega))); (try have hzGgV : gV < w1.heap.size := by omega))
            go_meet
            case rel => exact ⟨_, rfl, rfl, by first | omega | (simp; omega), by first | omega | (simp; omega), by (repeat' first | (with_reducible exact Below.refl _ _) | (with_reducible refine Below.setCell ?_ (by first | omega | (simp; done) | (simp; omega)) _) | (with_reducible refine Below.alloc ?_ (by first | omega | (simp; done) | (simp; omega)) _) | refine below_drewN ?_ _ | refine Below.drew ?_ | (refine below_thru (by assumption) ?_ (by first | omega | (simp; done) | (simp; omega))) | exact Below.refl _ _), by (repeat' first | (with_reducible assumption) | (with_reducible exact Blk.new _ _ _) | (with_reducible refine Blk.drew_ ?_) | (with_reducible refine Blk.alloc ?_ _) | (refine Blk.below ?_ (by assumption) (by first | omega | (simp; done) | (simp; omega)))), by (repeat' first | (with_reducible assumption) | (with_reducible exact Blk.new _ _ _) | (with_reducible refine Blk.drew_ ?_) | (with_reducible refine Blk.alloc ?_ _) | (refine Blk.below ?_ (by assumption) (by first | omega | (simp; done) | (simp; omega))))⟩
          case rest =>
            clear hw hBA
            obtain ⟨gB, rfl, rfl, hgB, hnAB, hw, hBA, hBB⟩ := hcut
            go_upto_region 13 with fail
            go_cut [11, 12] from 13 (fun p e w' => ∃ gC, p = .pointer (some ⟨gC, 0, none⟩) ∧ e = .int .i64 er ∧ w.heap.size ≤ gC ∧ gA ≠ gC ∧ gB ≠ gC ∧ Below w.heap.size w w' ∧ Blk w' gA 27 #[(Value.string ⟨((u).scheme).toArray⟩), (Value.string ⟨(((u).host).name).toArray⟩), (Value.bool ((u).host).v4), (Value.int .u32 (((u).host).addr : Int)), (Value.int .i64 (u).port), (Value.string ⟨((u).path).toArray⟩), (Value.bool (u).hasQuery), (Value.string ⟨((u).query).toArray⟩), (Value.string ⟨((u).rest).toArray⟩)] ∧ Blk w' gB 27 #[(Value.string ⟨((u).scheme).toArray⟩), (Value.string ⟨(((u).host).name).toArray⟩), (Value.bool ((u).host).v4), (Value.int .u32 (((u).host).addr : Int)), (Value.int .i64 (u).port), (Value.string ⟨((u).path).toArray⟩), (Value.bool (u).hasQuery), (Value.string ⟨((u).query).toArray⟩), (Value.string ⟨((u).rest).toArray⟩)] ∧ Blk w' gC 27 #[(Value.string ⟨((v).scheme).toArray⟩), (Value.string ⟨(((v).host).name).toArray⟩), (Value.bool ((v).host).v4), (Value.int .u32 (((v).host).addr : Int)), (Value.int .i64 (v).port), (Value.string ⟨((v).path).toArray⟩), (Value.bool (v).hasQuery), (Value.string ⟨((v).query).toArray⟩), (Value.string ⟨((v).rest).toArray⟩)])
            case first =>
              have hAl := hBA.lt
              have hAc := hBA.cell
              have hAf := hBA.frozen
              have hBl := hBB.lt
              have hBc := hBB.cell
              have hBf := hBB.frozen
              go_wp2_with (go_at_call 20; refine ( hc.out _ (by (repeat' first | (with_reducible exact Below.refl _ _) | (with_reducible refine Below.setCell ?_ (by first | omega | (simp; done) | (simp; omega)) _) | (with_reducible refine Below.alloc ?_ (by first | omega | (simp; done) | (simp; omega)) _) | refine below_drewN ?_ _ | refine Below.drew ?_ | (refine below_thru (by assumption) ?_ (by first | omega | (simp; done) | (simp; omega))) | exact Below.refl _ _))).mono ?_; rintro e w1 ⟨rfl, hb⟩; obtain ⟨hc, hfz⟩ := bcell hb; have hz := hb.size; (try simp at hz); (try have hz0 : w.heap.size < w1.heap.size := by omega); (try have hz1 : w.heap.size + 1 < w1.heap.size := by omega); (try have hz2 : w.heap.size + 2 < w1.heap.size := by omega); (try have hz3 : w.heap.size + 3 < w1.heap.size := by omega); (try have hcA := fun o => hc w.heap.size o (by first | omega | (simp; omega))); (try have hcB := fun o => hc (w.heap.size + 1) o (by first | omega | (simp; omega))); (try have hcGg := fun o => hc g o (by first | omega | (simp; omega))); (try have hfGg := fun o => hfz g o (by first | omega | (simp; omega))); (try have hzGg : g < w1.heap.size := by omega); (try have hcGgA := fun o => hc gA o (by first | omega | (simp; omega))); (try have hfGgA := fun o => hfz gA o (by first | omega | (simp; omega))); (try have hzGgA : gA < w1.heap.size := by omega); (try have hcGgB := fun o => hc gB o (by first | omega | (simp; omega))); (try have hfGgB := fun o => hfz gB o (by first | omega | (simp; omega))); (try have hzGgB : gB < w1.heap.size := by omega); (try have hcGgV := fun o => hc gV o (by first | omega | (simp; omega))); (try have hfGgV := fun o => hfz gV o (by first | omega | (simp; omega))); (try have hzGgV : gV < w1.heap.size := by omega))
              go_meet
              case rel => exact ⟨_, rfl, rfl, by first | omega | (simp; omega), by first | omega | (simp; omega), by first | omega | (simp; omega), by (repeat' first | (with_reducible exact Below.refl _ _) | (with_reducible refine Below.setCell ?_ (by first | omega | (simp; done) | (simp; omega)) _) | (with_reducible refine Below.alloc ?_ (by first | omega | (simp; done) | (simp; omega)) _) | refine below_drewN ?_ _ | refine Below.drew ?_ | (refine below_thru (by assumption) ?_ (by first | omega | (simp; done) | (simp; omega))) | exact Below.refl _ _), by (repeat' first | (with_reducible assumption) | (with_reducible exact Blk.new _ _ _) | (with_reducible refine Blk.drew_ ?_) | (with_reducible refine Blk.alloc ?_ _) | (refine Blk.below ?_ (by assumption) (by first | omega | (simp; done) | (simp; omega)))), by (repeat' first | (with_reducible assumption) | (with_reducible exact Blk.new _ _ _) | (with_reducible refine Blk.drew_ ?_) | (with_reducible refine Blk.alloc ?_ _) | (refine Blk.below ?_ (by assumption) (by first | omega | (simp; done) | (simp; omega)))), by (repeat' first | (with_reducible assumption) | (with_reducible exact Blk.new _ _ _) | (with_reducible refine Blk.drew_ ?_) | (with_reducible refine Blk.alloc ?_ _) | (refine Blk.below ?_ (by assumption) (by first | omega | (simp; done) | (simp; omega))))⟩
            case rest =>
              clear hw hBA hBB
              obtain ⟨gC, rfl, rfl, hgC, hnAC, hnBC, hw, hBA, hBB, hBC⟩ := hcut
              have hAl := hBA.lt
              have hAc := hBA.cell
              have hAf := hBA.frozen
              have hBl := hBB.lt
              have hBc := hBB.cell
              have hBf := hBB.frozen
              have hCl := hBC.lt
              have hCc := hBC.cell
              have hCf := hBC.frozen
              by_cases he : er = 0
              · subst he
                obtain ⟨hv1, hv2⟩ := hv.out rfl
                go_wp2_with fail
                go_ret
                exact ⟨rfl, by (repeat' first | (with_reducible exact Below.refl _ _) | (with_reducible refine Below.setCell ?_ (by first | omega | (simp; done) | (simp; omega)) _) | (with_reducible refine Below.alloc ?_ (by first | omega | (simp; done) | (simp; omega)) _) | refine below_drewN ?_ _ | refine Below.drew ?_ | (refine below_thru (by assumption) ?_ (by first | omega | (simp; done) | (simp; omega))) | exact Below.refl _ _)⟩
              · have he2 : (er != 0) = true := by simpa using he
                go_wp2_with fail
                go_ret
                exact ⟨rfl, by (repeat' first | (with_reducible exact Below.refl _ _) | (with_reducible refine Below.setCell ?_ (by first | omega | (simp; done) | (simp; omega)) _) | (with_reducible refine Below.alloc ?_ (by first | omega | (simp; done) | (simp; omega)) _) | refine below_drewN ?_ _ | refine Below.drew ?_ | (refine below_thru (by assumption) ?_ (by first | omega | (simp; done) | (simp; omega))) | exact Below.refl _ _)⟩
      · have hk2 := hkey (Or.inr (Or.inr (by cases path with | nil => simp at hp0 | cons a b => simpa using hp1)))
        clear hkey
        have hp3 : ((path[0].toNat : Int) != 47) = true := by rw [hp1]; rfl
        have hp1' : ((path[0].toNat : Int) != 63) = false := by rw [hp1]; rfl
        clear hp1
        obtain ⟨er, u, v, ha, hb, hc, hv⟩ := hk2
        replace ha := Lib.hid ha
        replace hb := Lib.hid hb
        replace hc := Lib.hid hc
        replace hv := Lib.hid hv
        go_upto_region 11 with fail
        go_cut [7, 8] from 13 (fun p e w' => ∃ gA, p = .pointer (some ⟨gA, 0, none⟩) ∧ e = .int .i64 er ∧ w.heap.size ≤ gA ∧ Below w.heap.size w w' ∧ Blk w' gA 27 #[(Value.string ⟨((u).scheme).toArray⟩), (Value.string ⟨(((u).host).name).toArray⟩), (Value.bool ((u).host).v4), (Value.int .u32 (((u).host).addr : Int)), (Value.int .i64 (u).port), (Value.string ⟨((u).path).toArray⟩), (Value.bool (u).hasQuery), (Value.string ⟨((u).query).toArray⟩), (Value.string ⟨((u).rest).toArray⟩)])
        case first =>
          go_wp2_with (go_at_call 20; refine ( ha.out _ (by (repeat' first | (with_reducible exact Below.refl _ _) | (with_reducible refine Below.setCell ?_ (by first | omega | (simp; done) | (simp; omega)) _) | (with_reducible refine Below.alloc ?_ (by first | omega | (simp; done) | (simp; omega)) _) | refine below_drewN ?_ _ | refine Below.drew ?_ | (refine below_thru (by assumption) ?_ (by first | omega | (simp; done) | (simp; omega))) | exact Below.refl _ _))).mono ?_; rintro e w1 ⟨rfl, hb⟩; obtain ⟨hc, hfz⟩ := bcell hb; have hz := hb.size; (try simp at hz); (try have hz0 : w.heap.size < w1.heap.size := by omega); (try have hz1 : w.heap.size + 1 < w1.heap.size := by omega); (try have hz2 : w.heap.size + 2 < w1.heap.size := by omega); (try have hz3 : w.heap.size + 3 < w1.heap.size := by omega); (try have hcA := fun o => hc w.heap.size o (by first | omega | (simp; omega))); (try have hcB := fun o => hc (w.heap.size + 1) o (by first | omega | (simp; omega))); (try have hcGg := fun o => hc g o (by first | omega | (simp; omega))); (try have hfGg := fun o => hfz g o (by first | omega | (simp; omega))); (try have hzGg : g < w1.heap.size := by omega); (try have hcGgA := fun o => hc gA o (by first | omega | (simp; omega))); (try have hfGgA := fun o => hfz gA o (by first | omega | (simp; omega))); (try have hzGgA : gA < w1.heap.size := by omega); (try have hcGgB := fun o => hc gB o (by first | omega | (simp; omega))); (try have hfGgB := fun o => hfz gB o (by first | omega | (simp; omega))); (try have hzGgB : gB < w1.heap.size := by omega); (try have hcGgV := fun o => hc gV o (by first | omega | (simp; omega))); (try have hfGgV := fun o => hfz gV o (by first | omega | (simp; omega))); (try have hzGgV : gV < w1.heap.size := by omega))
          go_meet
          case rel => exact ⟨_, rfl, rfl, by first | omega | (simp; omega), by (repeat' first | (with_reducible exact Below.refl _ _) | (with_reducible refine Below.setCell ?_ (by first | omega | (simp; done) | (simp; omega)) _) | (with_reducible refine Below.alloc ?_ (by first | omega | (simp; done) | (simp; omega)) _) | refine below_drewN ?_ _ | refine Below.drew ?_ | (refine below_thru (by assumption) ?_ (by first | omega | (simp; done) | (simp; omega))) | exact Below.refl _ _), by (repeat' first | (with_reducible assumption) | (with_reducible exact Blk.new _ _ _) | (with_reducible refine Blk.drew_ ?_) | (with_reducible refine Blk.alloc ?_ _) | (refine Blk.below ?_ (by assumption) (by first | omega | (simp; done) | (simp; omega))))⟩
        case rest =>
          obtain ⟨gA, rfl, rfl, hgA, hw, hBA⟩ := hcut
          go_upto_region 12 with fail
          go_cut [9, 10] from 13 (fun p e w' => ∃ gB, p = .pointer (some ⟨gB, 0, none⟩) ∧ e = .int .i64 er ∧ w.heap.size ≤ gB ∧ gA ≠ gB ∧ Below w.heap.size w w' ∧ Blk w' gA 27 #[(Value.string ⟨((u).scheme).toArray⟩), (Value.string ⟨(((u).host).name).toArray⟩), (Value.bool ((u).host).v4), (Value.int .u32 (((u).host).addr : Int)), (Value.int .i64 (u).port), (Value.string ⟨((u).path).toArray⟩), (Value.bool (u).hasQuery), (Value.string ⟨((u).query).toArray⟩), (Value.string ⟨((u).rest).toArray⟩)] ∧ Blk w' gB 27 #[(Value.string ⟨((u).scheme).toArray⟩), (Value.string ⟨(((u).host).name).toArray⟩), (Value.bool ((u).host).v4), (Value.int .u32 (((u).host).addr : Int)), (Value.int .i64 (u).port), (Value.string ⟨((u).path).toArray⟩), (Value.bool (u).hasQuery), (Value.string ⟨((u).query).toArray⟩), (Value.string ⟨((u).rest).toArray⟩)])
          case first =>
            have hAl := hBA.lt
            have hAc := hBA.cell
            have hAf := hBA.frozen
            go_wp2_with (go_at_call 20; refine ( hb.out _ (by (repeat' first | (with_reducible exact Below.refl _ _) | (with_reducible refine Below.setCell ?_ (by first | omega | (simp; done) | (simp; omega)) _) | (with_reducible refine Below.alloc ?_ (by first | omega | (simp; done) | (simp; omega)) _) | refine below_drewN ?_ _ | refine Below.drew ?_ | (refine below_thru (by assumption) ?_ (by first | omega | (simp; done) | (simp; omega))) | exact Below.refl _ _))).mono ?_; rintro e w1 ⟨rfl, hb⟩; obtain ⟨hc, hfz⟩ := bcell hb; have hz := hb.size; (try simp at hz); (try have hz0 : w.heap.size < w1.heap.size := by omega); (try have hz1 : w.heap.size + 1 < w1.heap.size := by omega); (try have hz2 : w.heap.size + 2 < w1.heap.size := by omega); (try have hz3 : w.heap.size + 3 < w1.heap.size := by omega); (try have hcA := fun o => hc w.heap.size o (by first | omega | (simp; omega))); (try have hcB := fun o => hc (w.heap.size + 1) o (by first | omega | (simp; omega))); (try have hcGg := fun o => hc g o (by first | omega | (simp; omega))); (try have hfGg := fun o => hfz g o (by first | omega | (simp; omega))); (try have hzGg : g < w1.heap.size := by omega); (try have hcGgA := fun o => hc gA o (by first | omega | (simp; omega))); (try have hfGgA := fun o => hfz gA o (by first | omega | (simp; omega))); (try have hzGgA : gA < w1.heap.size := by omega); (try have hcGgB := fun o => hc gB o (by first | omega | (simp; omega))); (try have hfGgB := fun o => hfz gB o (by first | omega | (simp; omega))); (try have hzGgB : gB < w1.heap.size := by omega); (try have hcGgV := fun o => hc gV o (by first | omega | (simp; omega))); (try have hfGgV := fun o => hfz gV o (by first | omega | (simp; omega))); (try have hzGgV : gV < w1.heap.size := by omega))
            go_meet
            case rel => exact ⟨_, rfl, rfl, by first | omega | (simp; omega), by first | omega | (simp; omega), by (repeat' first | (with_reducible exact Below.refl _ _) | (with_reducible refine Below.setCell ?_ (by first | omega | (simp; done) | (simp; omega)) _) | (with_reducible refine Below.alloc ?_ (by first | omega | (simp; done) | (simp; omega)) _) | refine below_drewN ?_ _ | refine Below.drew ?_ | (refine below_thru (by assumption) ?_ (by first | omega | (simp; done) | (simp; omega))) | exact Below.refl _ _), by (repeat' first | (with_reducible assumption) | (with_reducible exact Blk.new _ _ _) | (with_reducible refine Blk.drew_ ?_) | (with_reducible refine Blk.alloc ?_ _) | (refine Blk.below ?_ (by assumption) (by first | omega | (simp; done) | (simp; omega)))), by (repeat' first | (with_reducible assumption) | (with_reducible exact Blk.new _ _ _) | (with_reducible refine Blk.drew_ ?_) | (with_reducible refine Blk.alloc ?_ _) | (refine Blk.below ?_ (by assumption) (by first | omega | (simp; done) | (simp; omega))))⟩
          case rest =>
            clear hw hBA
            obtain ⟨gB, rfl, rfl, hgB, hnAB, hw, hBA, hBB⟩ := hcut
            go_upto_region 13 with fail
            go_cut [11, 12] from 13 (fun p e w' => ∃ gC, p = .pointer (some ⟨gC, 0, none⟩) ∧ e = .int .i64 er ∧ w.heap.size ≤ gC ∧ gA ≠ gC ∧ gB ≠ gC ∧ Below w.heap.size w w' ∧ Blk w' gA 27 #[(Value.string ⟨((u).scheme).toArray⟩), (Value.string ⟨(((u).host).name).toArray⟩), (Value.bool ((u).host).v4), (Value.int .u32 (((u).host).addr : Int)), (Value.int .i64 (u).port), (Value.string ⟨((u).path).toArray⟩), (Value.bool (u).hasQuery), (Value.string ⟨((u).query).toArray⟩), (Value.string ⟨((u).rest).toArray⟩)] ∧ Blk w' gB 27 #[(Value.string ⟨((u).scheme).toArray⟩), (Value.string ⟨(((u).host).name).toArray⟩), (Value.bool ((u).host).v4), (Value.int .u32 (((u).host).addr : Int)), (Value.int .i64 (u).port), (Value.string ⟨((u).path).toArray⟩), (Value.bool (u).hasQuery), (Value.string ⟨((u).query).toArray⟩), (Value.string ⟨((u).rest).toArray⟩)] ∧ Blk w' gC 27 #[(Value.string ⟨((v).scheme).toArray⟩), (Value.string ⟨(((v).host).name).toArray⟩), (Value.bool ((v).host).v4), (Value.int .u32 (((v).host).addr : Int)), (Value.int .i64 (v).port), (Value.string ⟨((v).path).toArray⟩), (Value.bool (v).hasQuery), (Value.string ⟨((v).query).toArray⟩), (Value.string ⟨((v).rest).toArray⟩)])
            case first =>
              have hAl := hBA.lt
              have hAc := hBA.cell
              have hAf := hBA.frozen
              have hBl := hBB.lt
              have hBc := hBB.cell
              have hBf := hBB.frozen
              go_wp2_with (go_at_call 20; refine ( hc.out _ (by (repeat' first | (with_reducible exact Below.refl _ _) | (with_reducible refine Below.setCell ?_ (by first | omega | (simp; done) | (simp; omega)) _) | (with_reducible refine Below.alloc ?_ (by first | omega | (simp; done) | (simp; omega)) _) | refine below_drewN ?_ _ | refine Below.drew ?_ | (refine below_thru (by assumption) ?_ (by first | omega | (simp; done) | (simp; omega))) | exact Below.refl _ _))).mono ?_; rintro e w1 ⟨rfl, hb⟩; obtain ⟨hc, hfz⟩ := bcell hb; have hz := hb.size; (try simp at hz); (try have hz0 : w.heap.size < w1.heap.size := by omega); (try have hz1 : w.heap.size + 1 < w1.heap.size := by omega); (try have hz2 : w.heap.size + 2 < w1.heap.size := by omega); (try have hz3 : w.heap.size + 3 < w1.heap.size := by omega); (try have hcA := fun o => hc w.heap.size o (by first | omega | (simp; omega))); (try have hcB := fun o => hc (w.heap.size + 1) o (by first | omega | (simp; omega))); (try have hcGg := fun o => hc g o (by first | omega | (simp; omega))); (try have hfGg := fun o => hfz g o (by first | omega | (simp; omega))); (try have hzGg : g < w1.heap.size := by omega); (try have hcGgA := fun o => hc gA o (by first | omega | (simp; omega))); (try have hfGgA := fun o => hfz gA o (by first | omega | (simp; omega))); (try have hzGgA : gA < w1.heap.size := by omega); (try have hcGgB := fun o => hc gB o (by first | omega | (simp; omega))); (try have hfGgB := fun o => hfz gB o (by first | omega | (simp; omega))); (try have hzGgB : gB < w1.heap.size := by omega); (try have hcGgV := fun o => hc gV o (by first | omega | (simp; omega))); (try have hfGgV := fun o => hfz gV o (by first | omega | (simp; omega))); (try have hzGgV : gV < w1.heap.size := by omega))
              go_meet
              case rel => exact ⟨_, rfl, rfl, by first | omega | (simp; omega), by first | omega | (simp; omega), by first | omega | (simp; omega), by (repeat' first | (with_reducible exact Below.refl _ _) | (with_reducible refine Below.setCell ?_ (by first | omega | (simp; done) | (simp; omega)) _) | (with_reducible refine Below.alloc ?_ (by first | omega | (simp; done) | (simp; omega)) _) | refine below_drewN ?_ _ | refine Below.drew ?_ | (refine below_thru (by assumption) ?_ (by first | omega | (simp; done) | (simp; omega))) | exact Below.refl _ _), by (repeat' first | (with_reducible assumption) | (with_reducible exact Blk.new _ _ _) | (with_reducible refine Blk.drew_ ?_) | (with_reducible refine Blk.alloc ?_ _) | (refine Blk.below ?_ (by assumption) (by first | omega | (simp; done) | (simp; omega)))), by (repeat' first | (with_reducible assumption) | (with_reducible exact Blk.new _ _ _) | (with_reducible refine Blk.drew_ ?_) | (with_reducible refine Blk.alloc ?_ _) | (refine Blk.below ?_ (by assumption) (by first | omega | (simp; done) | (simp; omega)))), by (repeat' first | (with_reducible assumption) | (with_reducible exact Blk.new _ _ _) | (with_reducible refine Blk.drew_ ?_) | (with_reducible refine Blk.alloc ?_ _) | (refine Blk.below ?_ (by assumption) (by first | omega | (simp; done) | (simp; omega))))⟩
            case rest =>
              clear hw hBA hBB
              obtain ⟨gC, rfl, rfl, hgC, hnAC, hnBC, hw, hBA, hBB, hBC⟩ := hcut
              have hAl := hBA.lt
              have hAc := hBA.cell
              have hAf := hBA.frozen
              have hBl := hBB.lt
              have hBc := hBB.cell
              have hBf := hBB.frozen
              have hCl := hBC.lt
              have hCc := hBC.cell
              have hCf := hBC.frozen
              by_cases he : er = 0
              · subst he
                obtain ⟨hv1, hv2⟩ := hv.out rfl
                go_wp2_with fail
                go_ret
                exact ⟨rfl, by (repeat' first | (with_reducible exact Below.refl _ _) | (with_reducible refine Below.setCell ?_ (by first | omega | (simp; done) | (simp; omega)) _) | (with_reducible refine Below.alloc ?_ (by first | omega | (simp; done) | (simp; omega)) _) | refine below_drewN ?_ _ | refine Below.drew ?_ | (refine below_thru (by assumption) ?_ (by first | omega | (simp; done) | (simp; omega))) | exact Below.refl _ _)⟩
              · have he2 : (er != 0) = true := by simpa using he
                go_wp2_with fail
                go_ret
                exact ⟨rfl, by (repeat' first | (with_reducible exact Below.refl _ _) | (with_reducible refine Below.setCell ?_ (by first | omega | (simp; done) | (simp; omega)) _) | (with_reducible refine Below.alloc ?_ (by first | omega | (simp; done) | (simp; omega)) _) | refine below_drewN ?_ _ | refine Below.drew ?_ | (refine below_thru (by assumption) ?_ (by first | omega | (simp; done) | (simp; omega))) | exact Below.refl _ _)⟩
      · clear hkey
        have hp1' : ((path[0].toNat : Int) != 47) = true := by
          rw [bne_iff_ne]; intro h; exact hp1 (by apply UInt8.toNat_inj.1; show path[0].toNat = 47; omega)
        clear hp1
        have hp2' : ((path[0].toNat : Int) != 63) = true := by
          rw [bne_iff_ne]; intro h; exact hp2 (by apply UInt8.toNat_inj.1; show path[0].toNat = 63; omega)
        clear hp2
        go_wp2_with fail
        go_ret
        exact ⟨rfl, by (repeat' first | (with_reducible exact Below.refl _ _) | (with_reducible refine Below.setCell ?_ (by first | omega | (simp; done) | (simp; omega)) _) | (with_reducible refine Below.alloc ?_ (by first | omega | (simp; done) | (simp; omega)) _) | refine below_drewN ?_ _ | refine Below.drew ?_ | (refine below_thru (by assumption) ?_ (by first | omega | (simp; done) | (simp; omega))) | exact Below.refl _ _)⟩
end Go.Proofs.YthmgcnaoionmoaaDoor
