/- taint.steps: a request's hops, one by one. -/
import Derived.Test.YtbafofldgkigmaaGreatDoorShared13
import Derived.Sort.CutIn
import Derived.Test.YtbafofldgkigmaaGreatDoorRangeB
import Derived.Test.YtbafofldgkigmaaGreatDoorFourB
import Derived.Test.YtbafofldgkigmaaGreatDoorFour
import Derived.Test.YtbafofldgkigmaaGreatDoorHop
namespace Go.Proofs.YtbafofldgkigmaaGreatDoor
open Go.RowKit
attribute [local irreducible] Calls
attribute [local go_sem] Oper.semAt_some
def VX (n0 lb : Nat) (W W' : World) : Prop := Below n0 W W' ∧ ∀ k, k ≠ lb → ∀ c t f, W.heap[k]? = some (.cells c t f) → W'.heap[k]? = some (.cells c t f)
theorem VX.refl (n0 lb : Nat) (W : World) : VX n0 lb W W := ⟨Below.refl _ _, fun _ _ _ _ _ h => h⟩
theorem VX.trans {n0 lb : Nat} {A B C : World} (h : VX n0 lb A B) (k : VX n0 lb B C) : VX n0 lb A C := ⟨h.1.trans k.1, fun i hi c t f hc => k.2 i hi c t f (h.2 i hi c t f hc)⟩
theorem VX.putObj {n0 lb : Nat} {w : World} (hn : n0 ≤ w.heap.size) (W : World) (l : Nat) (o o' : Obj) (hl : w.heap.size ≤ l) (h : W.heap[l]? = some o) (ho : o.isCells = false) (hw : o.isWalk = false) : VX n0 lb W (W.putObj l o') :=
  ⟨belowK_b hn W l o o' hl h ho hw, fun k _ c t f hc => by
    by_cases e : k = l
    · subst e
      rw [h] at hc
      cases hc
      cases ho
    · rw [World.putObj_heap_other e]
      exact hc⟩
theorem VX.below {n0 lb : Nat} {w A B : World} (h : VX n0 lb w A) (hb : Below w.heap.size A B) (hn : n0 ≤ w.heap.size) : VX n0 lb w B :=
  ⟨h.1.trans (hb.mono hn), fun k hk c t f e => (hb.block k (Array.getElem?_eq_some_iff.1 e).1).trans (h.2 k hk c t f e)⟩
theorem VX.blk {n0 lb : Nat} {W W' : World} (h : VX n0 lb W W') {k : Nat} (hk : k ≠ lb) {t : TypeId} {cs : Array Value} (hb : Blk W k t cs) : Blk W' k t cs := h.2 k hk _ _ _ hb
abbrev org0 : Gl.Origin := {}
abbrev HopI (L : List Gl.Hop) := { k : Nat // k < L.length }
/-- Is the hop ahead own? -/
def prevOwn (o : Gl.Origin) (L : List Gl.Hop) : Nat → Bool
  | 0 => true
  | k + 1 => Gl.ownH o (uAt L k)
def encStep (o : Gl.Origin) (L : List Gl.Hop) (x : HopI L) : Array Value := #[.agg #[(hopAt L x.1).vh, .bool (Gl.ownH o (uAt L x.1)), .bool (Gl.foreignK o L (x.1 + 1)), .bool (Gl.nullK o L (x.1 + 1))]]
set_option maxRecDepth 100000 in
set_option maxHeartbeats 40000000 in
theorem taint_steps (m c cp : Int) (o : Gl.Origin) (A : Option Addr) (n d : Nat) (w : World) :
    Calls Tryz.prog 62 #[.agg #[.int .i64 m, .int .i64 c, (Value.bool (o).opaq), (Value.int .i64 (o).id), (Value.string ⟨((o).scheme).toArray⟩), (Value.string ⟨(((o).host).name).toArray⟩), (Value.bool ((o).host).v4), (Value.int .u32 (((o).host).addr : Int)), (Value.int .i64 (o).port), .int .i64 cp], .slice A n d] w (fun e w' => e = .returned (.func (.func 92) #[] #[.pointer (some ⟨w.heap.size + 1, 0, none⟩), .pointer (some ⟨w.heap.size, 0, none⟩)]) ∧ w' = (w.alloc (.cells #[.int .i64 m, .int .i64 c, (Value.bool (o).opaq), (Value.int .i64 (o).id), (Value.string ⟨((o).scheme).toArray⟩), (Value.string ⟨(((o).host).name).toArray⟩), (Value.bool ((o).host).v4), (Value.int .u32 (((o).host).addr : Int)), (Value.int .i64 (o).port), .int .i64 cp] 54)).alloc (.cells #[.slice A n d] 55)) := by
  go_enter Tryz.func62, Tryz.ntmps62
  go_wp2
  go_ret
  exact ⟨rfl, rfl⟩
set_option maxRecDepth 100000 in
set_option maxHeartbeats 40000000 in
theorem steps1_seq (n : Nat) (hn : 1 ≤ n) (w0 wS : World) (hE : Env w0) (Ba Bb lb : Nat) (m c cp : Int) (o : Gl.Origin) (A : Option Addr) (cc : Nat) (L : List Gl.Hop) (hfit : ∀ h ∈ L, h.url.rest.length ≤ 3000) (hLl : L.length ≤ 281474976710656)
    (hn0 : w0.heap.size ≤ wS.heap.size) (hb0 : Below w0.heap.size w0 wS) (hBa : Blk wS Ba 55 #[.slice A L.length cc]) (hBb : Blk wS Bb 54 #[.int .i64 m, .int .i64 c, (Value.bool (o).opaq), (Value.int .i64 (o).id), (Value.string ⟨((o).scheme).toArray⟩), (Value.string ⟨(((o).host).name).toArray⟩), (Value.bool ((o).host).v4), (Value.int .u32 (((o).host).addr : Int)), (Value.int .i64 (o).port), .int .i64 cp]) (hlb : Bb ≠ lb) (hll : lb < wS.heap.size)
    (hfm : ∀ k, k < L.length → ∃ B n d, (hopAt L k).vh = .slice B n d)
    (hc : ∀ k, (h : k < L.length) → ∃ sb so, A = some ⟨sb, so, none⟩ ∧ sb < w0.heap.size ∧ ∀ i, i < 10 → wS.cell? ⟨sb, so + k * 10 + i, none⟩ = (hopcells L[k])[i]?) :
    SeqB Fence.wide n Tryz.prog 92 #[.pointer (some ⟨Ba, 0, none⟩), .pointer (some ⟨Bb, 0, none⟩)] (encStep o L) (VX w0.heap.size lb) (fun xs => xs.map (fun x => x.1) = List.range L.length) L.length wS := by
  intro l J Jx w hW hJ hJx hY hJ0
  replace hBa := hBa.below hW hBa.lt
  replace hBb := hBb.below hW hBb.lt
  have hb1 : Below w0.heap.size w0 w := hb0.trans (hW.mono hn0)
  have hz1 := hW.size
  have hn1 : w0.heap.size ≤ w.heap.size := by omega
  have hl1 : lb < w.heap.size := by omega
  have hc1 : Hid (∀ k, (h : k < L.length) → ∃ sb so, A = some ⟨sb, so, none⟩ ∧ sb < w0.heap.size ∧ ∀ i, i < 10 → w.cell? ⟨sb, so + k * 10 + i, none⟩ = (hopcells L[k])[i]?) := Lib.hid (fun k h => by
    obtain ⟨sb, so, e, hs, hx⟩ := hc k h
    exact ⟨sb, so, e, hs, fun i hi => (hW.cell (p := ⟨sb, so + k * 10 + i, none⟩) (by show sb < _; omega)).trans (hx i hi)⟩)
  clear hc hW hb0 hn0 hz1 hll
  replace hJ := Lib.hid hJ
  replace hY := Lib.hid hY
  replace hfit := Lib.hid hfit
  replace hfm := Lib.hid hfm
  clear hJx
  refine callsIn_of_wp Tryz.func92 rfl trivial ?_ rfl
  simp only [Tryz.ntmps92, List.size_toArray, List.length_cons, List.length_nil, Nat.reduceAdd, Nat.reduceSub, Array.replicate_succ, Array.replicate_zero, List.push_toArray, List.append_toArray, List.nil_append, List.cons_append]
  gi_upto_region 2 with fail
  generalize hW0 : ((w.alloc (Obj.cells #[(.bool false), (.int .i64 0), (.string ⟨#[]⟩), (.string ⟨#[]⟩), (.bool false), (.int .u32 0), (.int .i64 0)] 35)).alloc (Obj.cells #[(.slice none 0 0), (.bool true), (.bool false), (.bool false)] 116)) = W0
  have hw0 : Below w.heap.size w W0 := by rw [← hW0]; (exact bw_)
  have hBA : Blk W0 w.heap.size 35 #[(Value.bool (org0).opaq), (Value.int .i64 (org0).id), (Value.string ⟨((org0).scheme).toArray⟩), (Value.string ⟨(((org0).host).name).toArray⟩), (Value.bool ((org0).host).v4), (Value.int .u32 (((org0).host).addr : Int)), (Value.int .i64 (org0).port)] := by rw [← hW0]; exact (Blk.new _ _ _).alloc _
  have hBS : Blk W0 (w.heap.size + 1) 116 #[(.slice none 0 0), (.bool true), (.bool false), (.bool false)] := by rw [← hW0]; exact (by have := Blk.new (w.alloc (Obj.cells #[(.bool false), (.int .i64 0), (.string ⟨#[]⟩), (.string ⟨#[]⟩), (.bool false), (.int .u32 0), (.int .i64 0)] 35)) 116 #[(.slice none 0 0), (.bool true), (.bool false), (.bool false)]; simpa [World.size_alloc] using this)
  have hB1 := hBa.below hw0 hBa.lt
  have hJ1 : J [] W0 := hJ.out _ _ _ hJ0 hw0
  have hv1 : VX w0.heap.size lb w W0 := (VX.refl _ _ _).below hw0 hn1
  clear hW0 hJ0 hw0
  have h1l := hB1.lt
  have h1c := hB1.cell
  have h1f := hB1.frozen
  gi_wp2_with fail
  gi_loopw [6, 7, 8, 12] (fun _ _ _ i wr => ∃ (k : Nat) (pre : List (HopI L)) (a : Gl.Origin) (vh : Value), k ≤ L.length ∧ i = .int .i64 k ∧ pre.map (fun x => x.1) = List.range k ∧ J pre wr ∧ VX w0.heap.size lb w wr ∧ Blk wr w.heap.size 35 #[(Value.bool (a).opaq), (Value.int .i64 (a).id), (Value.string ⟨((a).scheme).toArray⟩), (Value.string ⟨(((a).host).name).toArray⟩), (Value.bool ((a).host).v4), (Value.int .u32 (((a).host).addr : Int)), (Value.int .i64 (a).port)] ∧ Blk wr (w.heap.size + 1) 116 #[vh, .bool (prevOwn o L k), .bool (Gl.foreignK o L k), .bool (Gl.nullK o L k)] ∧ (0 < k → a = Gl.originOf (uAt L (k - 1)) 0))
    (fun _ _ _ i _ => L.length - (intOf i).toNat)
  case atStart => exact ⟨0, [], org0, .slice none 0 0, Nat.zero_le _, rfl, rfl, hJ1, hv1, hBA, hBS, fun h => absurd h (by decide)⟩
  case round =>
    clear hB1 h1l h1c h1f hBA hBS hJ1 hv1 hBa
    obtain ⟨k, pre, a, vh, hk, rfl, hpre, hJs, hvx, hBA, hBS, ha⟩ := hrel
    have hBR := hvx.blk hlb hBb
    have hbr : Below w0.heap.size w0 wr := hb1.trans hvx.1
    have hwr := hBS.lt
    have hRb := hBb.lt
    have hRz := hvx.1.size
    by_cases hlt : k < L.length
    · obtain ⟨sb, so, rfl, hsB, hcell⟩ := hc1.out k hlt
      have hx := fun (i : Nat) (hi : i < 10) => (hvx.1.cell (p := ⟨sb, so + k * 10 + i, none⟩) hsB).trans (hcell i hi)
      clear hcell
      have hel : hopAt L k = L[k] := hopAt_lt hlt
      have hfk := hfit.out _ (List.getElem_mem hlt)
      have hof := fun X (hX : Below w.heap.size wr X) => origin_of (uAt L k) 0 X (hE.below (hbr.trans (hX.mono hn1))) (by unfold uAt; rw [hel]; omega)
      have hsa := fun X => origin_same a (Gl.originOf (uAt L k) 0) X
      have hso := fun X => origin_same (Gl.originOf (uAt L k) 0) o X
      have hNs : Gl.nullK o L (k + 1) = (Gl.nullK o L k || (decide (0 < k) && (!prevOwn o L k && !Gl.originSame a (Gl.originOf (uAt L k) 0)))) := by
        by_cases h0 : 0 < k
        · rw [Gl.nullK, ha h0]
          obtain ⟨j, rfl⟩ : ∃ j, k = j + 1 := ⟨k - 1, by omega⟩
          rfl
        · rw [Gl.nullK, decide_eq_false h0]
          simp
      have hFs : Gl.foreignK o L (k + 1) = (Gl.foreignK o L k || !Gl.ownH o (uAt L k)) := rfl
      have hOs : Gl.ownH o (uAt L k) = (!(Gl.originOf (uAt L k) 0).opaq && Gl.originSame (Gl.originOf (uAt L k) 0) o) := rfl
      have hYk := fun X h => hY.out pre ⟨k, hlt⟩ X h (by have := congrArg List.length hpre; rw [List.length_map, List.length_range] at this; omega)
      simp only [encStep] at hYk
      have hae : Hid (Gl.originOf (uAt L k) 0 = Gl.originOf (uAt L k) 0) := Lib.hid rfl
      have hoe : Hid (prevOwn o L (k + 1) = Gl.ownH o (uAt L k)) := Lib.hid rfl
      rw [← hel] at hx
      replace ha : Hid (∃ z, Gl.originOf (uAt L k) 0 = z) := Lib.hid ⟨_, rfl⟩
      obtain ⟨r, hr⟩ := ha.out
      obtain ⟨N, hN⟩ : ∃ N, Gl.nullK o L (k + 1) = N := ⟨_, rfl⟩
      obtain ⟨G, hG⟩ : ∃ G, Gl.foreignK o L (k + 1) = G := ⟨_, rfl⟩
      obtain ⟨Q, hQ⟩ : ∃ Q, Gl.ownH o (uAt L k) = Q := ⟨_, rfl⟩
      rw [hr] at hof hsa hso hNs hOs
      rw [hN] at hNs hYk
      rw [hG] at hFs hYk
      rw [hQ] at hFs hOs hYk hoe
      clear ha hae hfk hel
      replace hr := Lib.hid hr
      replace hN := Lib.hid hN
      replace hG := Lib.hid hG
      replace hYk := Lib.hid hYk
      have hu : uAt L k = (hopAt L k).url := rfl
      rw [hu] at hof
      have hfv := hfm.out k hlt
      clear hu hQ
      generalize hopAt L k = x at *
      generalize prevOwn o L k = ow at *
      generalize Gl.foreignK o L k = fo at *
      generalize Gl.nullK o L k = nu at *
      generalize Gl.originSame a r = q1 at *
      generalize Gl.originSame r o = q2 at *
      obtain ⟨u, vx, hl⟩ := x
      obtain ⟨A3, nv, d3, hvx3⟩ := hfv
      simp only at hof hYk hvx3
      subst hvx3
      simp only [hopcells] at hx
      have x0 := hx 0 (by decide)
      have x1 := hx 1 (by decide)
      have x2 := hx 2 (by decide)
      have x3 := hx 3 (by decide)
      have x4 := hx 4 (by decide)
      have x5 := hx 5 (by decide)
      have x6 := hx 6 (by decide)
      have x7 := hx 7 (by decide)
      have x8 := hx 8 (by decide)
      have x9 := hx 9 (by decide)
      simp only [Nat.add_zero, List.getElem?_toArray, List.getElem?_cons_zero, List.getElem?_cons_succ] at x0 x1 x2 x3 x4 x5 x6 x7 x8 x9
      clear hx
      replace hof := Lib.hid hof
      replace hsa := Lib.hid hsa
      replace hso := Lib.hid hso
      replace hNs := Lib.hid hNs
      replace hFs := Lib.hid hFs
      replace hOs := Lib.hid hOs
      have hsB1 : sb < wr.heap.size := by omega
      have hw0 := Below.refl w.heap.size wr
      have hwz := hw0.size
      have hAl := hBA.lt
      have hAc := hBA.cell
      have hAf := hBA.frozen
      have hSl := hBS.lt
      have hSc := hBS.cell
      have hSf := hBS.frozen
      have hRl := hBR.lt
      have hRc := hBR.cell
      have hRf := hBR.frozen
      gi_upto_region 4 with fail
      gi_cut [6, 7] from 13 (fun x6 x7 w' => ∃ gC, x6 = .int .i64 (k : Int) ∧ x7 = .pointer (some ⟨gC, 0, none⟩) ∧ Below w.heap.size wr w' ∧ Blk w' (w.heap.size) 35 #[(Value.bool (a).opaq), (Value.int .i64 (a).id), (Value.string ⟨((a).scheme).toArray⟩), (Value.string ⟨(((a).host).name).toArray⟩), (Value.bool ((a).host).v4), (Value.int .u32 (((a).host).addr : Int)), (Value.int .i64 (a).port)] ∧ Blk w' (w.heap.size + 1) 116 #[vh, .bool ow, .bool fo, .bool nu] ∧ Blk w' (Bb) 54 #[.int .i64 m, .int .i64 c, (Value.bool (o).opaq), (Value.int .i64 (o).id), (Value.string ⟨((o).scheme).toArray⟩), (Value.string ⟨(((o).host).name).toArray⟩), (Value.bool ((o).host).v4), (Value.int .u32 (((o).host).addr : Int)), (Value.int .i64 (o).port), .int .i64 cp] ∧ Blk w' (gC) 31 #[(Value.string ⟨((u).scheme).toArray⟩), (Value.string ⟨(((u).host).name).toArray⟩), (Value.bool ((u).host).v4), (Value.int .u32 (((u).host).addr : Int)), (Value.int .i64 (u).port), (Value.string ⟨((u).path).toArray⟩), (Value.bool (u).hasQuery), (Value.string ⟨((u).query).toArray⟩), (Value.string ⟨((u).rest).toArray⟩), .slice A3 nv d3] ∧ wr.heap.size ≤ gC)
      case first =>
        gi_wp2_with fail
        gi_meet
        case rel =>
          exact ⟨_, rfl, rfl, bw_, bk_, bk_, bk_, bk_, by first | omega | (simp; omega) | (simp; done)⟩
      case rest =>
      clear hw0 hwz hAl hAc hAf hSl hSc hSf hRl hRc hRf hBA hBS hBR 
      obtain ⟨gC, rfl, rfl, hw0, hBA, hBS, hBR, hBC, hzH⟩ := hcut
      have hwz := hw0.size
      have hAl := hBA.lt
      have hAc := hBA.cell
      have hAf := hBA.frozen
      have hSl := hBS.lt
      have hSc := hBS.cell
      have hSf := hBS.frozen
      have hRl := hBR.lt
      have hRc := hBR.cell
      have hRf := hBR.frozen
      have hCl := hBC.lt
      have hCc := hBC.cell
      have hCf := hBC.frozen
      clear x0 x1 x2 x3 x4 x5 x6 x7 x8 x9
      gi_upto_region 5 with fail
      gi_cut [8] from 13 (fun x8 w' => ∃ gD, x8 = .pointer (some ⟨gD, 0, none⟩) ∧ Below w.heap.size wr w' ∧ Blk w' (w.heap.size) 35 #[(Value.bool (a).opaq), (Value.int .i64 (a).id), (Value.string ⟨((a).scheme).toArray⟩), (Value.string ⟨(((a).host).name).toArray⟩), (Value.bool ((a).host).v4), (Value.int .u32 (((a).host).addr : Int)), (Value.int .i64 (a).port)] ∧ Blk w' (w.heap.size + 1) 116 #[vh, .bool ow, .bool fo, .bool nu] ∧ Blk w' (Bb) 54 #[.int .i64 m, .int .i64 c, (Value.bool (o).opaq), (Value.int .i64 (o).id), (Value.string ⟨((o).scheme).toArray⟩), (Value.string ⟨(((o).host).name).toArray⟩), (Value.bool ((o).host).v4), (Value.int .u32 (((o).host).addr : Int)), (Value.int .i64 (o).port), .int .i64 cp] ∧ Blk w' (gC) 31 #[(Value.string ⟨((u).scheme).toArray⟩), (Value.string ⟨(((u).host).name).toArray⟩), (Value.bool ((u).host).v4), (Value.int .u32 (((u).host).addr : Int)), (Value.int .i64 (u).port), (Value.string ⟨((u).path).toArray⟩), (Value.bool (u).hasQuery), (Value.string ⟨((u).query).toArray⟩), (Value.string ⟨((u).rest).toArray⟩), .slice A3 nv d3] ∧ Blk w' (gD) 35 #[(Value.bool (r).opaq), (Value.int .i64 (r).id), (Value.string ⟨((r).scheme).toArray⟩), (Value.string ⟨(((r).host).name).toArray⟩), (Value.bool ((r).host).v4), (Value.int .u32 (((r).host).addr : Int)), (Value.int .i64 (r).port)] ∧ wr.heap.size ≤ gC ∧ wr.heap.size ≤ gD)
      case first =>
        gi_wp2_with (first | (refine ⟨trivial, ?_⟩; gi_at_call 15; refine (callsIn_wide.2 (hof.out _ (bw_))).mono ?_; rintro e w1 ⟨rfl, hb⟩; obtain ⟨hc, hfz⟩ := bcell hb; have hz := hb.size; (try simp at hz); (try have hz0 := lt_ hb w.heap.size); (try have hz1 := lt_ hb (w.heap.size + 1)); (try have hz2 := lt_ hb (w.heap.size + 2)); (try have hz3 := lt_ hb (w.heap.size + 3)); (try have hcA := fun o => hc w.heap.size o sz_); (try have hcB := fun o => hc (w.heap.size + 1) o sz_); (try (have i := cf_ hb gC; obtain ⟨hcGgC, hfGgC, hzGgC⟩ := i)); (try (have i := cf_ hb gD; obtain ⟨hcGgD, hfGgD, hzGgD⟩ := i))))
        gi_meet
        case rel =>
          exact ⟨_, rfl, bw_, bk_, bk_, bk_, bk_, bk_, by first | omega | (simp; omega) | (simp; done), by first | omega | (simp; omega) | (simp; done)⟩
      case rest =>
      clear hw0 hwz hAl hAc hAf hSl hSc hSf hRl hRc hRf hCl hCc hCf hBA hBS hBR hBC hzH
      obtain ⟨gD, rfl, hw0, hBA, hBS, hBR, hBC, hBD, hzH, hzO⟩ := hcut
      have hwz := hw0.size
      have hAl := hBA.lt
      have hAc := hBA.cell
      have hAf := hBA.frozen
      have hSl := hBS.lt
      have hSc := hBS.cell
      have hSf := hBS.frozen
      have hRl := hBR.lt
      have hRc := hBR.cell
      have hRf := hBR.frozen
      have hCl := hBC.lt
      have hCc := hBC.cell
      have hCf := hBC.frozen
      have hDl := hBD.lt
      have hDc := hBD.cell
      have hDf := hBD.frozen
      gi_upto_region 6 with fail
      gi_cut [] from 13 (fun  w' => Below w.heap.size wr w' ∧ Blk w' (w.heap.size) 35 #[(Value.bool (a).opaq), (Value.int .i64 (a).id), (Value.string ⟨((a).scheme).toArray⟩), (Value.string ⟨(((a).host).name).toArray⟩), (Value.bool ((a).host).v4), (Value.int .u32 (((a).host).addr : Int)), (Value.int .i64 (a).port)] ∧ Blk w' (w.heap.size + 1) 116 #[vh, .bool ow, .bool fo, .bool N] ∧ Blk w' (Bb) 54 #[.int .i64 m, .int .i64 c, (Value.bool (o).opaq), (Value.int .i64 (o).id), (Value.string ⟨((o).scheme).toArray⟩), (Value.string ⟨(((o).host).name).toArray⟩), (Value.bool ((o).host).v4), (Value.int .u32 (((o).host).addr : Int)), (Value.int .i64 (o).port), .int .i64 cp] ∧ Blk w' (gC) 31 #[(Value.string ⟨((u).scheme).toArray⟩), (Value.string ⟨(((u).host).name).toArray⟩), (Value.bool ((u).host).v4), (Value.int .u32 (((u).host).addr : Int)), (Value.int .i64 (u).port), (Value.string ⟨((u).path).toArray⟩), (Value.bool (u).hasQuery), (Value.string ⟨((u).query).toArray⟩), (Value.string ⟨((u).rest).toArray⟩), .slice A3 nv d3] ∧ Blk w' (gD) 35 #[(Value.bool (r).opaq), (Value.int .i64 (r).id), (Value.string ⟨((r).scheme).toArray⟩), (Value.string ⟨(((r).host).name).toArray⟩), (Value.bool ((r).host).v4), (Value.int .u32 (((r).host).addr : Int)), (Value.int .i64 (r).port)] ∧ wr.heap.size ≤ gC ∧ wr.heap.size ≤ gD)
      case first =>
        have hN2 := hNs.out
        cases nu
        · by_cases k0 : 0 < k
          · rw [decide_eq_true k0] at hN2
            cases ow
            · obtain rfl : N = !q1 := by rw [hN2]; cases q1 <;> rfl
              clear hN2
              gi_wp2_with (first | (refine ⟨trivial, ?_⟩; gi_at_call 58; refine (callsIn_wide.2 (hsa.out _)).mono ?_; rintro e w1 ⟨rfl, hb⟩; obtain ⟨hc, hfz⟩ := bcell hb; have hz := hb.size; (try simp at hz); (try have hz0 := lt_ hb w.heap.size); (try have hz1 := lt_ hb (w.heap.size + 1)); (try have hz2 := lt_ hb (w.heap.size + 2)); (try have hz3 := lt_ hb (w.heap.size + 3)); (try have hcA := fun o => hc w.heap.size o sz_); (try have hcB := fun o => hc (w.heap.size + 1) o sz_); (try (have i := cf_ hb gC; obtain ⟨hcGgC, hfGgC, hzGgC⟩ := i)); (try (have i := cf_ hb gD; obtain ⟨hcGgD, hfGgD, hzGgD⟩ := i))))
              gi_meet
              case rel => exact ⟨bw_, bks_, by exact Blk.set_ (cs := #[vh, .bool false, .bool fo, .bool false]) (by exact bk_) 3 (.bool (!q1)), bks_, bks_, bks_, hzH, hzO⟩
            · obtain rfl : N = false := by rw [hN2]; cases q1 <;> rfl
              clear hN2
              gi_wp2_with (refine ⟨trivial, ?_⟩)
              gi_meet
              case rel => exact ⟨bw_, bks_, by exact Blk.set_ (cs := #[vh, .bool true, .bool fo, .bool false]) (by exact bk_) 3 (.bool false), bks_, bks_, bks_, hzH, hzO⟩
          · rw [decide_eq_false k0] at hN2
            obtain rfl : k = 0 := by omega
            obtain rfl : N = false := by rw [hN2]; cases q1 <;> cases ow <;> rfl
            clear hN2
            gi_wp2_with (refine ⟨trivial, ?_⟩)
            gi_meet
            case rel => exact ⟨bw_, bks_, by exact Blk.set_ (cs := #[vh, .bool ow, .bool fo, .bool false]) (by exact bk_) 3 (.bool false), bks_, bks_, bks_, hzH, hzO⟩
        · obtain rfl : N = true := by rw [hN2]; rfl
          clear hN2
          gi_wp2_with (refine ⟨trivial, ?_⟩)
          gi_meet
          case rel => exact ⟨bw_, bks_, by exact Blk.set_ (cs := #[vh, .bool ow, .bool fo, .bool true]) (by exact bk_) 3 (.bool true), bks_, bks_, bks_, hzH, hzO⟩
      case rest =>
      clear hw0 hwz hAl hAc hAf hSl hSc hSf hRl hRc hRf hCl hCc hCf hDl hDc hDf hBA hBS hBR hBC hBD hzH hzO
      obtain ⟨hw0, hBA, hBS, hBR, hBC, hBD, hzH, hzO⟩ := hcut
      have hwz := hw0.size
      have hAl := hBA.lt
      have hAc := hBA.cell
      have hAf := hBA.frozen
      have hSl := hBS.lt
      have hSc := hBS.cell
      have hSf := hBS.frozen
      have hRl := hBR.lt
      have hRc := hBR.cell
      have hRf := hBR.frozen
      have hCl := hBC.lt
      have hCc := hBC.cell
      have hCf := hBC.frozen
      have hDl := hBD.lt
      have hDc := hBD.cell
      have hDf := hBD.frozen
      gi_upto_region 7 with fail
      gi_cut [] from 13 (fun  w' => Below w.heap.size wr w' ∧ Blk w' (w.heap.size) 35 #[(Value.bool (a).opaq), (Value.int .i64 (a).id), (Value.string ⟨((a).scheme).toArray⟩), (Value.string ⟨(((a).host).name).toArray⟩), (Value.bool ((a).host).v4), (Value.int .u32 (((a).host).addr : Int)), (Value.int .i64 (a).port)] ∧ Blk w' (w.heap.size + 1) 116 #[vh, .bool Q, .bool fo, .bool N] ∧ Blk w' (Bb) 54 #[.int .i64 m, .int .i64 c, (Value.bool (o).opaq), (Value.int .i64 (o).id), (Value.string ⟨((o).scheme).toArray⟩), (Value.string ⟨(((o).host).name).toArray⟩), (Value.bool ((o).host).v4), (Value.int .u32 (((o).host).addr : Int)), (Value.int .i64 (o).port), .int .i64 cp] ∧ Blk w' (gC) 31 #[(Value.string ⟨((u).scheme).toArray⟩), (Value.string ⟨(((u).host).name).toArray⟩), (Value.bool ((u).host).v4), (Value.int .u32 (((u).host).addr : Int)), (Value.int .i64 (u).port), (Value.string ⟨((u).path).toArray⟩), (Value.bool (u).hasQuery), (Value.string ⟨((u).query).toArray⟩), (Value.string ⟨((u).rest).toArray⟩), .slice A3 nv d3] ∧ Blk w' (gD) 35 #[(Value.bool (r).opaq), (Value.int .i64 (r).id), (Value.string ⟨((r).scheme).toArray⟩), (Value.string ⟨(((r).host).name).toArray⟩), (Value.bool ((r).host).v4), (Value.int .u32 (((r).host).addr : Int)), (Value.int .i64 (r).port)] ∧ wr.heap.size ≤ gC ∧ wr.heap.size ≤ gD)
      case first =>
        have hO2 := hOs.out
        obtain ⟨rp, ri, rs, rh, rt⟩ := r
        simp only at hO2
        cases rp
        · obtain rfl : Q = q2 := by rw [hO2]; cases q2 <;> rfl
          clear hO2
          gi_wp2_with (first | (refine ⟨trivial, ?_⟩; gi_at_call 58; refine (callsIn_wide.2 (hso.out _)).mono ?_; rintro e w1 ⟨rfl, hb⟩; obtain ⟨hc, hfz⟩ := bcell hb; have hz := hb.size; (try simp at hz); (try have hz0 := lt_ hb w.heap.size); (try have hz1 := lt_ hb (w.heap.size + 1)); (try have hz2 := lt_ hb (w.heap.size + 2)); (try have hz3 := lt_ hb (w.heap.size + 3)); (try have hcA := fun o => hc w.heap.size o sz_); (try have hcB := fun o => hc (w.heap.size + 1) o sz_); (try (have i := cf_ hb gC; obtain ⟨hcGgC, hfGgC, hzGgC⟩ := i)); (try (have i := cf_ hb gD; obtain ⟨hcGgD, hfGgD, hzGgD⟩ := i))))
          gi_meet
          case rel => exact ⟨bw_, bks_, by exact Blk.set_ (cs := #[vh, .bool ow, .bool fo, .bool N]) (by exact bk_) 1 (.bool Q), bks_, bks_, bks_, hzH, hzO⟩
        · obtain rfl : Q = false := by rw [hO2]; rfl
          clear hO2
          gi_wp2_with (refine ⟨trivial, ?_⟩)
          gi_meet
          case rel => exact ⟨bw_, bks_, by exact Blk.set_ (cs := #[vh, .bool ow, .bool fo, .bool N]) (by exact bk_) 1 (.bool false), bks_, bks_, bks_, hzH, hzO⟩
      case rest =>
      clear hw0 hwz hAl hAc hAf hSl hSc hSf hRl hRc hRf hCl hCc hCf hDl hDc hDf hBA hBS hBR hBC hBD hzH hzO
      obtain ⟨hw0, hBA, hBS, hBR, hBC, hBD, hzH, hzO⟩ := hcut
      have hwz := hw0.size
      have hAl := hBA.lt
      have hAc := hBA.cell
      have hAf := hBA.frozen
      have hSl := hBS.lt
      have hSc := hBS.cell
      have hSf := hBS.frozen
      have hRl := hBR.lt
      have hRc := hBR.cell
      have hRf := hBR.frozen
      have hCl := hBC.lt
      have hCc := hBC.cell
      have hCf := hBC.frozen
      have hDl := hBD.lt
      have hDc := hBD.cell
      have hDf := hBD.frozen
      gi_upto_region 8 with fail
      gi_cut [] from 13 (fun  w' => Below w.heap.size wr w' ∧ Blk w' (w.heap.size) 35 #[(Value.bool (a).opaq), (Value.int .i64 (a).id), (Value.string ⟨((a).scheme).toArray⟩), (Value.string ⟨(((a).host).name).toArray⟩), (Value.bool ((a).host).v4), (Value.int .u32 (((a).host).addr : Int)), (Value.int .i64 (a).port)] ∧ Blk w' (w.heap.size + 1) 116 #[vh, .bool Q, .bool G, .bool N] ∧ Blk w' (Bb) 54 #[.int .i64 m, .int .i64 c, (Value.bool (o).opaq), (Value.int .i64 (o).id), (Value.string ⟨((o).scheme).toArray⟩), (Value.string ⟨(((o).host).name).toArray⟩), (Value.bool ((o).host).v4), (Value.int .u32 (((o).host).addr : Int)), (Value.int .i64 (o).port), .int .i64 cp] ∧ Blk w' (gC) 31 #[(Value.string ⟨((u).scheme).toArray⟩), (Value.string ⟨(((u).host).name).toArray⟩), (Value.bool ((u).host).v4), (Value.int .u32 (((u).host).addr : Int)), (Value.int .i64 (u).port), (Value.string ⟨((u).path).toArray⟩), (Value.bool (u).hasQuery), (Value.string ⟨((u).query).toArray⟩), (Value.string ⟨((u).rest).toArray⟩), .slice A3 nv d3] ∧ Blk w' (gD) 35 #[(Value.bool (r).opaq), (Value.int .i64 (r).id), (Value.string ⟨((r).scheme).toArray⟩), (Value.string ⟨(((r).host).name).toArray⟩), (Value.bool ((r).host).v4), (Value.int .u32 (((r).host).addr : Int)), (Value.int .i64 (r).port)] ∧ wr.heap.size ≤ gC ∧ wr.heap.size ≤ gD)
      case first =>
        have hF2 := hFs.out
        cases fo
        · obtain rfl : G = !Q := by rw [hF2]; cases Q <;> rfl
          clear hF2
          gi_wp2_with fail
          gi_meet
          case rel => exact ⟨bw_, bks_, by exact Blk.set_ (cs := #[vh, .bool Q, .bool false, .bool N]) (by exact bk_) 2 (.bool (!Q)), bks_, bks_, bks_, hzH, hzO⟩
        · obtain rfl : G = true := by rw [hF2]; rfl
          clear hF2
          gi_wp2_with fail
          gi_meet
          case rel => exact ⟨bw_, bks_, by exact Blk.set_ (cs := #[vh, .bool Q, .bool true, .bool N]) (by exact bk_) 2 (.bool true), bks_, bks_, bks_, hzH, hzO⟩
      case rest =>
      clear hw0 hwz hAl hAc hAf hSl hSc hSf hRl hRc hRf hCl hCc hCf hDl hDc hDf hBA hBS hBR hBC hBD hzH hzO
      obtain ⟨hw0, hBA, hBS, hBR, hBC, hBD, hzH, hzO⟩ := hcut
      have hwz := hw0.size
      have hAl := hBA.lt
      have hAc := hBA.cell
      have hAf := hBA.frozen
      have hSl := hBS.lt
      have hSc := hBS.cell
      have hSf := hBS.frozen
      have hRl := hBR.lt
      have hRc := hBR.cell
      have hRf := hBR.frozen
      have hCl := hBC.lt
      have hCc := hBC.cell
      have hCf := hBC.frozen
      have hDl := hBD.lt
      have hDc := hBD.cell
      have hDf := hBD.frozen
      gi_upto_region 9 with fail
      gi_cut [] from 13 (fun  w' => Below w.heap.size wr w' ∧ Blk w' (w.heap.size) 35 #[(Value.bool (a).opaq), (Value.int .i64 (a).id), (Value.string ⟨((a).scheme).toArray⟩), (Value.string ⟨(((a).host).name).toArray⟩), (Value.bool ((a).host).v4), (Value.int .u32 (((a).host).addr : Int)), (Value.int .i64 (a).port)] ∧ Blk w' (w.heap.size + 1) 116 #[.slice A3 nv d3, .bool Q, .bool G, .bool N] ∧ Blk w' (Bb) 54 #[.int .i64 m, .int .i64 c, (Value.bool (o).opaq), (Value.int .i64 (o).id), (Value.string ⟨((o).scheme).toArray⟩), (Value.string ⟨(((o).host).name).toArray⟩), (Value.bool ((o).host).v4), (Value.int .u32 (((o).host).addr : Int)), (Value.int .i64 (o).port), .int .i64 cp] ∧ Blk w' (gC) 31 #[(Value.string ⟨((u).scheme).toArray⟩), (Value.string ⟨(((u).host).name).toArray⟩), (Value.bool ((u).host).v4), (Value.int .u32 (((u).host).addr : Int)), (Value.int .i64 (u).port), (Value.string ⟨((u).path).toArray⟩), (Value.bool (u).hasQuery), (Value.string ⟨((u).query).toArray⟩), (Value.string ⟨((u).rest).toArray⟩), .slice A3 nv d3] ∧ Blk w' (gD) 35 #[(Value.bool (r).opaq), (Value.int .i64 (r).id), (Value.string ⟨((r).scheme).toArray⟩), (Value.string ⟨(((r).host).name).toArray⟩), (Value.bool ((r).host).v4), (Value.int .u32 (((r).host).addr : Int)), (Value.int .i64 (r).port)] ∧ wr.heap.size ≤ gC ∧ wr.heap.size ≤ gD)
      case first =>
        gi_wp2_with fail
        gi_meet
        case rel => exact ⟨bw_, bks_, by exact Blk.set_ (cs := #[vh, .bool Q, .bool G, .bool N]) (by exact bk_) 0 (.slice A3 nv d3), bks_, bks_, bks_, hzH, hzO⟩
      case rest =>
      clear hw0 hwz hAl hAc hAf hSl hSc hSf hRl hRc hRf hCl hCc hCf hDl hDc hDf hBA hBS hBR hBC hBD hzH hzO
      obtain ⟨hw0, hBA, hBS, hBR, hBC, hBD, hzH, hzO⟩ := hcut
      have hwz := hw0.size
      have hAl := hBA.lt
      have hAc := hBA.cell
      have hAf := hBA.frozen
      have hSl := hBS.lt
      have hSc := hBS.cell
      have hSf := hBS.frozen
      have hRl := hBR.lt
      have hRc := hBR.cell
      have hRf := hBR.frozen
      have hCl := hBC.lt
      have hCc := hBC.cell
      have hCf := hBC.frozen
      have hDl := hBD.lt
      have hDc := hBD.cell
      have hDf := hBD.frozen
      have hJ2 : J pre wc := hJ.out _ _ _ hJs hw0
      have hvx2 : VX w0.heap.size lb w wc := hvx.below hw0 hn1
      gi_wp2_with fail
      obtain ⟨fn, tmps, assign, body, hy, hR⟩ := hYk.out wc hJ2
      rw [hy]
      gi_wp2
      refine hR.mono ?_
      rintro e W3 (⟨rfl, hJ3, hk3⟩ | ⟨rfl, hJx3⟩)
      · have hvx3 := hvx2.trans hk3
        replace hBA := hk3.blk (by omega) hBA
        replace hBS := hk3.blk (by omega) hBS
        replace hBD := hk3.blk (by omega) hBD
        clear hAl hAc hAf hSl hSc hSf hDl hDc hDf hCl hCc hCf hRl hRc hRf hBC hBR
        have hAl := hBA.lt
        have hAc := hBA.cell
        have hAf := hBA.frozen
        have hSl := hBS.lt
        have hSc := hBS.cell
        have hSf := hBS.frozen
        have hDl := hBD.lt
        have hDc := hBD.cell
        have hDf := hBD.frozen
        gi_wp2
        go_roundw
        case rel => exact ⟨k + 1, pre ++ [⟨k, hlt⟩], r, .slice A3 nv d3, by omega, by go_num, by rw [List.map_append, hpre, List.range_succ]; rfl, hJ.out _ _ _ hJ3 (bw_), hvx3.below (bw_) hn1, by exact ((((((hBA.set_ 0 (.bool r.opaq)).set_ 1 (.int .i64 r.id)).set_ 2 ((Value.string ⟨(r.scheme).toArray⟩))).set_ 3 ((Value.string ⟨(r.host.name).toArray⟩))).set_ 4 (.bool r.host.v4)).set_ 5 (.int .u32 (r.host.addr : Int))).set_ 6 (.int .i64 r.port), by rw [hoe.out, hG.out, hN.out]; exact bks_, fun _ => hr.out.symm⟩
        case measure => simp [intOf]; omega
      · gi_wp2
        refine bodyPost_ret (results_none rfl _ _ _) rfl ?_
        exact ⟨⟨_, rfl⟩, .inr ⟨_, hJx3⟩⟩
    · obtain rfl : k = L.length := by omega
      gi_wp2
      go_end0
      exact ⟨⟨_, rfl⟩, .inl ⟨pre, hpre, hJs⟩⟩
end Go.Proofs.YtbafofldgkigmaaGreatDoor
