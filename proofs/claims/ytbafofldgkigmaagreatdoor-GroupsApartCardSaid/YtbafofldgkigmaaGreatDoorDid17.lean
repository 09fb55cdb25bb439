/- glacislaw17: did. -/
import Derived.Test.YtbafofldgkigmaaGreatDoorBoth17
namespace Go.Proofs.YtbafofldgkigmaaGreatDoor
open Go.RowKit
attribute [local irreducible] Calls
theorem But.low {g r s t : Nat} {w w' : World} (h : But [r, s, t, g] w w') (hm : r ≤ w.heap.size) (h1 : r < s) (h2 : s < t) (h3 : t < g) : Below r w w' :=
  h.below hm (by intro j hj; simp at hj; omega)
set_option maxHeartbeats 8000000 in
set_option maxRecDepth 100000 in
theorem law17_did (w : World) (p r s t g : Nat) (S : Gl.Gs) (k : Int) (hok : S.Ok k) (hk : k ≤ 999999) (c : Gl.Call) (v : Value) (U : List (List UInt8)) (vG vC : Value) (hP : GP w p r s t S) (hR : RSt w g vG vC S) (hpg : p < g) (hv : ∀ W, Below r w W → Sufs W v U) (hE : ∀ W, Below r w W → Env W) (ho : OWide c.o) (hid : -9223372036854775808 ≤ c.o.id ∧ c.o.id ≤ 9223372036854775807) :
    Calls Tryz.prog 34 #[.pointer (some ⟨p, 0, none⟩), .pointer (some ⟨g, 0, none⟩), .agg #[.int .i64 c.kind, .int .i64 c.n, .bool c.yes, (Value.bool (c.o).opaq), (Value.int .i64 (c.o).id), (Value.string ⟨((c.o).scheme).toArray⟩), (Value.string ⟨(((c.o).host).name).toArray⟩), (Value.bool ((c.o).host).v4), (Value.int .u32 (((c.o).host).addr : Int)), (Value.int .i64 (c.o).port)], v] w (fun e w' => e = .returned (.bool true) ∧ Below r w w' ∧ Two w' p r s t g (S.step c U) ∧ ∀ j, j < w.heap.size → j ∉ [r, s, t, p] → j ≠ g → vG.ownBlock ≠ some j → vC.ownBlock ≠ some j → w'.heap[j]? = w.heap[j]?) := by
  have h1 := GSt.rs hP
  have h2 := GSt.st hP
  have h3 := GSt.tg hP
  have hpl := hP.blk.lt
  have hgl := hR.blk.lt
  obtain ⟨kind, n, yes, o⟩ := c
  simp only at ho hid ⊢
  obtain ⟨vA, vc, hv0, _, _, _⟩ := (hv w (Below.refl _ _)).strs
  subst hv0
  generalize hW : w.alloc (.cells #[.int .i64 kind, .int .i64 n, .bool yes, (Value.bool (o).opaq), (Value.int .i64 (o).id), (Value.string ⟨((o).scheme).toArray⟩), (Value.string ⟨(((o).host).name).toArray⟩), (Value.bool ((o).host).v4), (Value.int .u32 (((o).host).addr : Int)), (Value.int .i64 (o).port)] 72) = W
  have hb0 : Below w.heap.size w W := by rw [← hW]; (exact bw_)
  have hX : Blk W w.heap.size 72 #[.int .i64 kind, .int .i64 n, .bool yes, (Value.bool (o).opaq), (Value.int .i64 (o).id), (Value.string ⟨((o).scheme).toArray⟩), (Value.string ⟨(((o).host).name).toArray⟩), (Value.bool ((o).host).v4), (Value.int .u32 (((o).host).addr : Int)), (Value.int .i64 (o).port)] := by rw [← hW]; exact Blk.new _ _ _
  have hP0 : GP W p r s t S := GSt.below hP hb0
  have hR0 := hR.below hb0
  have hXl := hX.lt
  have hXc := hX.cell
  have hXf := hX.frozen
  have hbr0 : Below r w W := hb0.mono (by omega)
  generalize hgX : w.heap.size = gX at *
  by_cases q1 : kind = 1
  · subst q1
    have hopen := GP.openG hok (by omega) hP0 yes
    have hropen := fun (W2 : World) (vG vC : Value) (hr : RSt W2 g vG vC S) => ref17_open W2 g vG vC S k hok (by omega) hr yes
    have hst : S.step ⟨1, n, yes, o⟩ U = (S.openG yes).1 := rfl
    rw [hst]
    clear hst
    generalize (S.openG yes) = Z at *
    obtain ⟨S2, a2, e2⟩ := Z
    simp only at hopen hropen ⊢
    replace hopen := Lib.hid hopen
    replace hropen := Lib.hid hropen
    go_enter Tryz.func34, Tryz.ntmps34
    go_upto_region 3 with fail
    clear hW
    go_wp2_with fail
    refine hopen.out.mono ?_
    rintro e wP ⟨⟨rfl, hbP⟩, hgP⟩
    have hrP := hR0.but hbP h1 h2 h3 hpg
    have hXP : Blk wP gX 72 #[.int .i64 1, .int .i64 n, .bool yes, (Value.bool (o).opaq), (Value.int .i64 (o).id), (Value.string ⟨((o).scheme).toArray⟩), (Value.string ⟨(((o).host).name).toArray⟩), (Value.bool ((o).host).v4), (Value.int .u32 (((o).host).addr : Int)), (Value.int .i64 (o).port)] := (hbP.block gX hXl (by simp; omega)).trans hX
    have hbP2 : Below r W wP := hbP.low (by omega) h1 h2 h3
    clear hXc hXf hX hR0 hP0 hP hR
    have hXc := hXP.cell
    have hXf := hXP.frozen
    go_wp2_with fail
    refine (hropen.out _ _ _ hrP).mono ?_
    rintro e wR ⟨⟨rfl, hbR⟩, vG2, hr2⟩
    have hkp : ∀ j, j < gX → j ∉ [r, s, t, p] → j ≠ g → vG.ownBlock ≠ some j → vC.ownBlock ≠ some j → wR.heap[j]? = w.heap[j]? := fun j hj k1 k2 k3 k4 => ((hbR.block j (Nat.lt_of_lt_of_le (Nat.lt_trans hj hXl) hbP.size) k2 k3 k4).trans (hbP.block j (Nat.lt_trans hj hXl) k1)).trans (hb0.block j hj)
    have hbR := hbR.low hrP
    have hgR := GP.under hgP hbR hpg
    clear hXc hXf
    go_wp2_with fail
    go_ret
    exact ⟨rfl, (hbr0.trans hbP2).trans (hbR.mono (show r ≤ g by omega)), ⟨hgR, ⟨_, _, hr2⟩, hpg⟩, hkp⟩
  have f1 : (kind == 1) = false := by rw [beq_eq_false_iff_ne]; exact q1
  by_cases q3 : kind = 3
  · subst q3
    have hcl := GP.cluster hok (by omega) hP0 n o (.slice vA U.length vc) U (hv W hbr0) (hE W hbr0) ho hid
    have hrcl := fun (W2 : World) (hb : Below r w W2) (vG vC : Value) (hr : RSt W2 g vG vC S) => ref17_cluster W2 g vG vC S k hok (by omega) hr n o (.slice vA U.length vc) U (hv W2 hb) (hE W2 hb) ho hid
    have hst : S.step ⟨3, n, yes, o⟩ U = (S.cluster n o U).1 := rfl
    rw [hst]
    clear hst q1
    generalize (S.cluster n o U) = Z at *
    obtain ⟨S2, ⟨ci, cg, ck, cs⟩, e2⟩ := Z
    simp only [ccells] at hcl hrcl ⊢
    replace hcl := Lib.hid hcl
    replace hrcl := Lib.hid hrcl
    go_enter Tryz.func34, Tryz.ntmps34
    go_upto_region 9 with fail
    clear hW
    go_wp2_with fail
    refine hcl.out.mono ?_
    rintro e wP ⟨⟨rfl, hbP⟩, hgP⟩
    have hrP := hR0.but hbP h1 h2 h3 hpg
    have hXP : Blk wP gX 72 #[.int .i64 3, .int .i64 n, .bool yes, (Value.bool (o).opaq), (Value.int .i64 (o).id), (Value.string ⟨((o).scheme).toArray⟩), (Value.string ⟨(((o).host).name).toArray⟩), (Value.bool ((o).host).v4), (Value.int .u32 (((o).host).addr : Int)), (Value.int .i64 (o).port)] := (hbP.block gX hXl (by simp; omega)).trans hX
    have hbP2 : Below r W wP := hbP.low (by omega) h1 h2 h3
    clear hXc hXf hX hR0 hP0 hP hR
    go_upto_region 10 with fail
    generalize hW3 : wP.alloc (.cells #[.int .i64 ci, .int .i64 cg, .string ⟨ck.toArray⟩, .bool cs] 75) = W3
    have hb3 : Below wP.heap.size wP W3 := by rw [← hW3]; (exact bw_)
    have hC3 : Blk W3 wP.heap.size 75 #[.int .i64 ci, .int .i64 cg, .string ⟨ck.toArray⟩, .bool cs] := by rw [← hW3]; exact Blk.new _ _ _
    have hnot := hrP.not (Nat.le_refl _)
    have hr3 := hrP.below hb3
    have hg3 : GP W3 p r s t S2 := GSt.below hgP hb3
    have hX3 := hXP.below hb3 hXP.lt
    have hz3 := hb3.size
    have hXPl := hXP.lt
    have hrl3 := hrP.blk.lt
    have hP3 : ∀ j, j < gX → j ∉ [r, s, t, p] → W3.heap[j]? = W.heap[j]? := fun j hj k1 => (hb3.block j (by omega)).trans (hbP.block j (by omega) k1)
    have hb4 : Below r w W3 := (hbr0.trans hbP2).trans (hb3.mono (by omega))
    clear hW3 hXP hgP hrP hb3
    generalize wP.heap.size = gC at *
    have hXc := hX3.cell
    have hXf := hX3.frozen
    go_wp2_with fail
    refine (hrcl.out _ hb4 _ _ hr3).mono ?_
    rintro e wR ⟨⟨rfl, hbR⟩, vG2, hr2⟩
    have hCR : Blk wR gC 75 #[.int .i64 ci, .int .i64 cg, .string ⟨ck.toArray⟩, .bool cs] := (hbR.block gC hC3.lt (by omega) hnot.1 hnot.2).trans hC3
    have hkp : ∀ j, j < gX → j ∉ [r, s, t, p] → j ≠ g → vG.ownBlock ≠ some j → vC.ownBlock ≠ some j → wR.heap[j]? = w.heap[j]? := fun j hj k1 k2 k3 k4 => ((hbR.block j (by omega) k2 k3 k4).trans (hP3 j hj k1)).trans (hb0.block j hj)
    have hbR2 := hbR.low hr3
    have hgR := GP.under hg3 hbR2 hpg
    clear hXc hXf
    have hCc := hCR.cell
    have hCf := hCR.frozen
    have hCl := hCR.lt
    have hbw : Below r w wR := hb4.trans (hbR2.mono (show r ≤ g by omega))
    go_wp2_with fail
    go_ret
    have hbwz := hbw.size
    exact ⟨rfl, hbw.alloc (by omega) _, ⟨GSt.below hgR ((Below.refl _ _).alloc (Nat.le_refl _) _), ⟨_, _, hr2.below ((Below.refl _ _).alloc (Nat.le_refl _) _)⟩, hpg⟩, fun j hj k1 k2 k3 k4 => (Below.heap_alloc _ _ j (by omega)).trans (hkp j hj k1 k2 k3 k4)⟩
  have f3 : (kind == 3) = false := by rw [beq_eq_false_iff_ne]; exact q3
  by_cases q2 : kind = 2
  · subst q2
    have hdr := fun (W2 : World) (hp : GP W2 p r s t S) => groups_drop W2 p r s t S k hok hp n
    have hrdr := fun (W2 : World) (vG vC : Value) (hr : RSt W2 g vG vC S) => ref17_drop W2 g vG vC S k hok hr n
    have hst : S.step ⟨2, n, yes, o⟩ U = (S.dropG n).1 := rfl
    rw [hst]
    clear hst q1 q3
    generalize (S.dropG n) = Z at *
    obtain ⟨S2, e2⟩ := Z
    simp only at hdr hrdr ⊢
    replace hdr := Lib.hid hdr
    replace hrdr := Lib.hid hrdr
    have hnot := hR0.not (j := gX)
    go_enter Tryz.func34, Tryz.ntmps34
    go_upto_region 7 with fail
    clear hW
    have hw7 := hR.not (Nat.le_of_eq hgX)
    have hrW : r ≤ W.heap.size := by omega
    go_region_held3 (fun X => ∀ n0, X.cell? ⟨gX, n0, none⟩ = (#[.int .i64 2, .int .i64 n, .bool yes, (Value.bool (o).opaq), (Value.int .i64 (o).id), (Value.string ⟨((o).scheme).toArray⟩), (Value.string ⟨(((o).host).name).toArray⟩), (Value.bool ((o).host).v4), (Value.int .u32 (((o).host).addr : Int)), (Value.int .i64 (o).port)] : Array Value)[n0]?) (first | exact hX.cell | exact hX.drew_.cell | exact hXc2) (first
      | (go_at_call 44; refine (hdr.out _ (by first | exact hP0 | exact GSt.below hP0 ((Below.refl _ _).drew) | exact hgR)).mono ?_; rintro e wP ⟨⟨rfl, hbP⟩, hgP⟩; first | (have hrP := (hR0.below ((Below.refl W.heap.size W).drew)).but hbP h1 h2 h3 hpg; have hX2 : Blk wP gX 72 #[.int .i64 2, .int .i64 n, .bool yes, (Value.bool (o).opaq), (Value.int .i64 (o).id), (Value.string ⟨((o).scheme).toArray⟩), (Value.string ⟨(((o).host).name).toArray⟩), (Value.bool ((o).host).v4), (Value.int .u32 (((o).host).addr : Int)), (Value.int .i64 (o).port)] := (hbP.block gX hXl (by simp; omega)).trans hX; have hXc2 := hX2.cell; have hlo : Below r W wP := Below.trans ((Below.refl r W).drew) (hbP.low hrW h1 h2 h3)) | (have hrQ := hrR.but hbP h1 h2 h3 hpg; have hX3 : Blk wP gX 72 #[.int .i64 2, .int .i64 n, .bool yes, (Value.bool (o).opaq), (Value.int .i64 (o).id), (Value.string ⟨((o).scheme).toArray⟩), (Value.string ⟨(((o).host).name).toArray⟩), (Value.bool ((o).host).v4), (Value.int .u32 (((o).host).addr : Int)), (Value.int .i64 (o).port)] := (hbP.block gX hX2.lt (by simp; omega)).trans hX2; have hXc2 := hX3.cell; have hlo2 : Below r W wP := hlo.trans (hbP.low (Nat.le_trans hrW hlo.size) h1 h2 h3)))
      | (go_at_call 75; refine (hrdr.out _ _ _ (by first | exact hrP | exact hR0.below ((Below.refl _ _).drew))).mono ?_; rintro e wR ⟨⟨rfl, hbR⟩, vG2, vC2, hrR⟩; first | (have hbR2 := hbR.low hrP; have hgQ := GP.under hgP hbR2 hpg; have hX3 : Blk wR gX 72 #[.int .i64 2, .int .i64 n, .bool yes, (Value.bool (o).opaq), (Value.int .i64 (o).id), (Value.string ⟨((o).scheme).toArray⟩), (Value.string ⟨(((o).host).name).toArray⟩), (Value.bool ((o).host).v4), (Value.int .u32 (((o).host).addr : Int)), (Value.int .i64 (o).port)] := (hbR.block gX hX2.lt (by omega) hw7.1 hw7.2).trans hX2; have hXc2 := hX3.cell; have hlo2 : Below r W wR := hlo.trans (hbR2.mono (show r ≤ g by omega))) | (have hbR2 := hbR.low (hR0.below ((Below.refl W.heap.size W).drew)); have hgR := GP.under (GSt.below hP0 ((Below.refl W.heap.size W).drew)) hbR2 hpg; have hX2 : Blk wR gX 72 #[.int .i64 2, .int .i64 n, .bool yes, (Value.bool (o).opaq), (Value.int .i64 (o).id), (Value.string ⟨((o).scheme).toArray⟩), (Value.string ⟨(((o).host).name).toArray⟩), (Value.bool ((o).host).v4), (Value.int .u32 (((o).host).addr : Int)), (Value.int .i64 (o).port)] := (hbR.block gX hXl (by omega) hw7.1 hw7.2).trans hX; have hXc2 := hX2.cell; have hlo : Below r W wR := Below.trans ((Below.refl r W).drew) (hbR2.mono (show r ≤ g by omega)))))
    all_goals go_wp2_with fail
    all_goals go_ret
    all_goals first
      | exact ⟨rfl, hbr0.trans hlo2, ⟨hgQ, ⟨_, _, hrR⟩, hpg⟩, fun j hj k1 k2 k3 k4 => ((hbR.block j (Nat.lt_of_lt_of_le (Nat.lt_trans hj hXl) hbP.size) k2 k3 k4).trans (hbP.block j (Nat.lt_trans hj hXl) k1)).trans (hb0.block j hj)⟩
      | exact ⟨rfl, hbr0.trans hlo2, ⟨hgP, ⟨_, _, hrQ⟩, hpg⟩, fun j hj k1 k2 k3 k4 => ((hbP.block j (Nat.lt_of_lt_of_le (Nat.lt_trans hj hXl) hbR.size) k1).trans (hbR.block j (Nat.lt_trans hj hXl) k2 k3 k4)).trans (hb0.block j hj)⟩
  have f2 : (kind == 2) = false := by rw [beq_eq_false_iff_ne]; exact q2
  have hst : S.step ⟨kind, n, yes, o⟩ U = S := by unfold Gl.Gs.step; simp [q1, q2, q3]
  rw [hst]
  clear hst
  replace q1 := Lib.hid q1
  replace q2 := Lib.hid q2
  replace q3 := Lib.hid q3
  go_enter Tryz.func34, Tryz.ntmps34
  go_upto_region 1 with fail
  clear hW
  go_wp2_with fail
  go_ret
  exact ⟨rfl, hbr0, ⟨hP0, ⟨_, _, hR0⟩, hpg⟩, fun j hj _ _ _ _ => hb0.block j hj⟩
end Go.Proofs.YtbafofldgkigmaaGreatDoor
