/- glacislaw17: of; awake. -/
import Derived.Test.YtbafofldgkigmaaGreatDoorAwake4
import Derived.Test.YtbafofldgkigmaaGreatDoorCluster
namespace Go.Proofs.YtbafofldgkigmaaGreatDoor
open Go.RowKit
attribute [local irreducible] Calls
set_option maxHeartbeats 1000000 in
theorem law17_of (s : List UInt8) (w : World) (hE : Env w) (hs : s.length ≤ 4294967280) : Calls Tryz.prog 72 #[(Value.string ⟨(s).toArray⟩)] w (Ret w ((Value.agg #[(Value.bool (Gl.originOf (Gl.parse s).1 0).opaq), (Value.int .i64 (Gl.originOf (Gl.parse s).1 0).id), (Value.string ⟨((Gl.originOf (Gl.parse s).1 0).scheme).toArray⟩), (Value.string ⟨(((Gl.originOf (Gl.parse s).1 0).host).name).toArray⟩), (Value.bool ((Gl.originOf (Gl.parse s).1 0).host).v4), (Value.int .u32 (((Gl.originOf (Gl.parse s).1 0).host).addr : Int)), (Value.int .i64 (Gl.originOf (Gl.parse s).1 0).port)]))) := by
  have hp := fun W (hW : Below w.heap.size w W) => urlp_parse s W hs (hE.below hW)
  have hr := parse_rest_len s
  generalize Gl.parse s = p at *
  obtain ⟨u, e⟩ := p
  simp only at hp hr ⊢
  have ho := fun W (hW : Below w.heap.size w W) => origin_of u 0 W (hE.below hW) (by omega)
  generalize Gl.originOf u 0 = o at *
  replace hp := Lib.hid hp
  replace ho := Lib.hid ho
  go_enter Tryz.func72, Tryz.ntmps72
  go_wp2_with (first | ((first | (go_at_call 19; refine (hp.out _ (bw_)).mono ?_) | (go_at_call 15; refine (ho.out _ (bw_)).mono ?_)); rintro e w1 ⟨rfl, hb⟩; obtain ⟨hc, hfz⟩ := bcell hb; have hz := hb.size; (try simp at hz); (try have hz0 := lt_ hb w.heap.size); (try have hz1 := lt_ hb (w.heap.size + 1)); (try have hz2 := lt_ hb (w.heap.size + 2)); (try have hz3 := lt_ hb (w.heap.size + 3)); (try have hcA := fun o => hc w.heap.size o sz_); (try have hcB := fun o => hc (w.heap.size + 1) o sz_)))
  refine bodyPost_ret (v := (Value.agg #[(Value.bool (o).opaq), (Value.int .i64 (o).id), (Value.string ⟨((o).scheme).toArray⟩), (Value.string ⟨(((o).host).name).toArray⟩), (Value.bool ((o).host).v4), (Value.int .u32 (((o).host).addr : Int)), (Value.int .i64 (o).port)])) (by simp only [results, Tryz.results72]; go_simp) rfl ⟨rfl, ?_⟩
  (exact bw_)
theorem But.four {g r s t m : Nat} {w w' : World} (h : But [r, s, t, g] w w') (hm : m ≤ w.heap.size) (hr : m ≤ r) (h1 : r < s) (h2 : s < t) (h3 : t < g) : Below m w w' :=
  h.below hm (by intro j hj; simp at hj; omega)
theorem Blk.but {w w' : World} {b : Nat} {t : TypeId} {cs : Array Value} {L : List Nat} (h : Blk w b t cs) (hb : But L w w') (hn : b ∉ L) : Blk w' b t cs := (hb.block b h.lt hn).trans h
def oX : Gl.Origin := { opaq := false, id := 0, scheme := [104, 116, 116, 112, 115], host := { name := [120, 46, 97, 46, 98] }, port := 443 }
def oY : Gl.Origin := { opaq := false, id := 0, scheme := [104, 116, 116, 112, 115], host := { name := [121, 46, 97, 46, 98] }, port := 443 }
def tX : List UInt8 := [104, 116, 116, 112, 115, 58, 47, 47, 120, 46, 97, 46, 98, 47]
def tY : List UInt8 := [104, 116, 116, 112, 115, 58, 47, 47, 121, 46, 97, 46, 98, 47]
def kS : List UInt8 := [104, 116, 116, 112, 115, 58, 47, 47, 97, 46, 98]
def kX : List UInt8 := [104, 116, 116, 112, 115, 58, 47, 47, 120, 46, 97, 46, 98]
def kY : List UInt8 := [104, 116, 116, 112, 115, 58, 47, 47, 121, 46, 97, 46, 98]
set_option maxRecDepth 100000 in
theorem of_X : Gl.originOf (Gl.parse tX).1 0 = oX := by decide +kernel
set_option maxRecDepth 100000 in
theorem of_Y : Gl.originOf (Gl.parse tY).1 0 = oY := by decide +kernel
set_option maxRecDepth 100000 in
theorem key_XS : Gl.keyOf oX false [] = kS := by decide +kernel
set_option maxRecDepth 100000 in
theorem key_YS : Gl.keyOf oY false [] = kS := by decide +kernel
set_option maxRecDepth 100000 in
theorem key_XX : Gl.keyOf oX true [] = kX := by decide +kernel
set_option maxRecDepth 100000 in
theorem key_YY : Gl.keyOf oY true [] = kY := by decide +kernel
theorem wide_X : OWide oX := ⟨⟨by decide, by decide⟩, by decide, by decide, by decide⟩
theorem wide_Y : OWide oY := ⟨⟨by decide, by decide⟩, by decide, by decide, by decide⟩
set_option maxRecDepth 100000 in
theorem key_null : Gl.keyOf { opaq := true, id := 4 } true [] = [110, 117, 108, 108, 35, 52] := by decide +kernel
set_option maxHeartbeats 4000000 in
set_option maxRecDepth 100000 in
theorem awake17 (w : World) (hE : Env w) : Calls Tryz.prog 31 #[] w (Ret w (.bool true)) := by
  go_enter Tryz.func31, Tryz.ntmps31
  go_wp2_with fail
  refine (groups_new _ 2 (by omega) (by omega)).mono ?_
  rintro e w1 ⟨⟨rfl, hb1⟩, hg1⟩
  go_wp2_with fail
  refine (groups_new_err _ 0 (by omega)).mono ?_
  rintro e w2 ⟨rfl, hb2⟩
  go_wp2_with fail
  have hg2 := hg1.below hb2
  have B2 : Below w.heap.size w w2 := hb1.trans (hb2.mono hb1.size)
  clear hb1 hb2 hg1
  have hm : w.heap.size ≤ w2.heap.size := B2.size
  refine (groups_open _ _ _ _ _ _ _ _ false _ _ _ hg2 (by decide) (by decide) (by decide) (by simp)).mono ?_
  rintro e w3 ⟨⟨rfl, hb3⟩, hg3⟩
  have B3 := B2.trans (hb3.four hm (Nat.le_refl _) (by omega) (by omega) (by omega))
  clear hb3 hg2 hm
  go_wp2_with fail
  have hm : w.heap.size ≤ w3.heap.size := B3.size
  refine (groups_open _ _ _ _ _ _ _ _ true _ _ _ hg3 (by decide) (by decide) (by decide) (by simp)).mono ?_
  rintro e w4 ⟨⟨rfl, hb4⟩, hg4⟩
  have B4 := B3.trans (hb4.four hm (Nat.le_refl _) (by omega) (by omega) (by omega))
  clear hb4 hg3 hm
  go_wp2_with fail
  refine (groups_open_many _ _ _ _ _ _ _ _ true _ _ _ hg4 (by decide)).mono ?_
  rintro e w5 ⟨rfl, hb5⟩
  have hg5 : GSt w5 (w.heap.size + 3) w.heap.size (w.heap.size + 1) (w.heap.size + 2) 2 2 0 [(1, false), (2, true)] [] [] := hg4.below hb5
  have B5 : Below w.heap.size w w5 := B4.trans (hb5.mono B4.size)
  clear hb5 hg4 B2 B3 B4
  go_wp2_with fail
  have hf5 := law17_of tX w5 (hE.below B5) (by decide)
  rw [of_X] at hf5
  refine hf5.mono ?_
  clear hf5
  rintro e w6 ⟨rfl, hb⟩
  have hg6 := hg5.below hb
  have B6 : Below w.heap.size w w6 := B5.trans (hb.mono B5.size)
  clear hb hg5 B5
  go_wp2_with fail
  have hf6 := groups_cluster_new w6 _ _ _ _ 2 2 0 1 oX _ [] _ _ _ hg6 (Sufs.none w6) false rfl (hE.below B6) wide_X (by decide) (by rw [key_XS]; decide) (by decide) (by decide) (by decide) (by decide) (by decide) (by decide)
  rw [key_XS] at hf6
  refine hf6.mono ?_
  clear hf6
  rintro e w7 ⟨⟨rfl, hb⟩, hg⟩
  have hg7 : GSt w7 (w.heap.size + 3) w.heap.size (w.heap.size + 1) (w.heap.size + 2) 2 2 1 [(1, false), (2, true)] [(1, ⟨1, 1, kS, false⟩)] [(1, kS, 1)] := hg
  have B7 : Below w.heap.size w w7 := B6.trans (hb.four B6.size (Nat.le_refl _) (by omega) (by omega) (by omega))
  clear hb hg hg6 B6
  go_wp2_with fail
  generalize hW : (w7.alloc (Obj.cells #[.int .i64 1, .int .i64 1, (Value.string ⟨(kS).toArray⟩), .bool false] 75)) = w8
  have hg8 := hg7.below (w' := w8) (by rw [← hW]; (exact bw_))
  have B8 : Below w.heap.size w w8 := by rw [← hW]; exact B7.trans (Below.alloc (Below.refl _ _) B7.size _)
  have bc : Blk w8 w7.heap.size 75 #[.int .i64 1, .int .i64 1, (Value.string ⟨(kS).toArray⟩), .bool false] := by rw [← hW]; exact Blk.new _ _ _
  have nc : w.heap.size + 3 < w7.heap.size := hg7.blk.lt
  clear hW hg7 B7
  generalize w7.heap.size = gc at *
  go_wp2_with fail
  have hf8 := law17_of tY w8 (hE.below B8) (by decide)
  rw [of_Y] at hf8
  refine hf8.mono ?_
  clear hf8
  rintro e w9 ⟨rfl, hb⟩
  have hg9 := hg8.below hb
  have B9 : Below w.heap.size w w9 := B8.trans (hb.mono B8.size)
  replace bc := bc.below hb bc.lt
  clear hb hg8 B8
  go_wp2_with fail
  have hf9 := groups_cluster_old w9 _ _ _ _ 2 2 _ 1 oY _ [] _ _ _ hg9 (Sufs.none w9) false rfl (hE.below B9) wide_Y (by decide) 1 (by rw [key_YS]; decide)
  replace hf9 : Calls Tryz.prog 45 #[.pointer (some ⟨w.heap.size + 3, 0, none⟩), .int .i64 1, (Value.agg #[(Value.bool (oY).opaq), (Value.int .i64 (oY).id), (Value.string ⟨((oY).scheme).toArray⟩), (Value.string ⟨(((oY).host).name).toArray⟩), (Value.bool ((oY).host).v4), (Value.int .u32 (((oY).host).addr : Int)), (Value.int .i64 (oY).port)]), .slice none 0 0] w9 (Ret w9 (.tuple #[.agg #[.int .i64 1, .int .i64 1, (Value.string ⟨(kS).toArray⟩), .bool false], .int .i64 0])) := hf9
  refine hf9.mono ?_
  clear hf9
  rintro e w10 ⟨rfl, hb⟩
  have hg10 := hg9.below hb
  have B10 : Below w.heap.size w w10 := B9.trans (hb.mono B9.size)
  replace bc := bc.below hb bc.lt
  clear hb hg9 B9
  go_wp2_with fail
  generalize hW : (w10.alloc (Obj.cells #[.int .i64 1, .int .i64 1, (Value.string ⟨(kS).toArray⟩), .bool false] 75)) = w11
  have hg11 := hg10.below (w' := w11) (by rw [← hW]; (exact bw_))
  have B11 : Below w.heap.size w w11 := by rw [← hW]; exact B10.trans (Below.alloc (Below.refl _ _) B10.size _)
  have bd : Blk w11 w10.heap.size 75 #[.int .i64 1, .int .i64 1, (Value.string ⟨(kS).toArray⟩), .bool false] := by rw [← hW]; exact Blk.new _ _ _
  have nd : w.heap.size + 3 < w10.heap.size := hg10.blk.lt
  replace bc : Blk w11 gc 75 #[.int .i64 1, .int .i64 1, (Value.string ⟨(kS).toArray⟩), .bool false] := by rw [← hW]; exact bc.alloc _
  clear hW hg10 B10
  generalize w10.heap.size = gd at *
  go_wp2_with fail
  have hf11 := law17_of tX w11 (hE.below B11) (by decide)
  rw [of_X] at hf11
  refine hf11.mono ?_
  clear hf11
  rintro e w12 ⟨rfl, hb⟩
  have hg12 := hg11.below hb
  have B12 : Below w.heap.size w w12 := B11.trans (hb.mono B11.size)
  replace bc := bc.below hb bc.lt
  replace bd := bd.below hb bd.lt
  clear hb hg11 B11
  go_wp2_with fail
  have hf12 := groups_cluster_new w12 _ _ _ _ 2 2 1 2 oX _ [] _ _ _ hg12 (Sufs.none w12) true rfl (hE.below B12) wide_X (by decide) (by rw [key_XX]; decide) (by decide) (by decide) (by decide) (by decide) (by decide) (by decide)
  rw [key_XX] at hf12
  refine hf12.mono ?_
  clear hf12
  rintro e w13 ⟨⟨rfl, hb⟩, hg⟩
  have hg13 : GSt w13 (w.heap.size + 3) w.heap.size (w.heap.size + 1) (w.heap.size + 2) 2 2 2 [(1, false), (2, true)] [(1, ⟨1, 1, kS, false⟩), (2, ⟨2, 2, kX, true⟩)] [(1, kS, 1), (2, kX, 2)] := hg
  have B13 : Below w.heap.size w w13 := B12.trans (hb.four B12.size (Nat.le_refl _) (by omega) (by omega) (by omega))
  replace bc := bc.but hb (by simp; omega)
  replace bd := bd.but hb (by simp; omega)
  clear hb hg hg12 B12
  go_wp2_with fail
  generalize hW : (w13.alloc (Obj.cells #[.int .i64 2, .int .i64 2, (Value.string ⟨(kX).toArray⟩), .bool true] 75)) = w14
  have hg14 := hg13.below (w' := w14) (by rw [← hW]; (exact bw_))
  have B14 : Below w.heap.size w w14 := by rw [← hW]; exact B13.trans (Below.alloc (Below.refl _ _) B13.size _)
  have bi : Blk w14 w13.heap.size 75 #[.int .i64 2, .int .i64 2, (Value.string ⟨(kX).toArray⟩), .bool true] := by rw [← hW]; exact Blk.new _ _ _
  have ni : w.heap.size + 3 < w13.heap.size := hg13.blk.lt
  replace bc : Blk w14 gc 75 #[.int .i64 1, .int .i64 1, (Value.string ⟨(kS).toArray⟩), .bool false] := by rw [← hW]; exact bc.alloc _
  replace bd : Blk w14 gd 75 #[.int .i64 1, .int .i64 1, (Value.string ⟨(kS).toArray⟩), .bool false] := by rw [← hW]; exact bd.alloc _
  clear hW hg13 B13
  generalize w13.heap.size = gi at *
  go_wp2_with fail
  have hf14 := law17_of tY w14 (hE.below B14) (by decide)
  rw [of_Y] at hf14
  refine hf14.mono ?_
  clear hf14
  rintro e w15 ⟨rfl, hb⟩
  have hg15 := hg14.below hb
  have B15 : Below w.heap.size w w15 := B14.trans (hb.mono B14.size)
  replace bc := bc.below hb bc.lt
  replace bd := bd.below hb bd.lt
  replace bi := bi.below hb bi.lt
  clear hb hg14 B14
  go_wp2_with fail
  have hf15 := groups_cluster_new w15 _ _ _ _ 2 2 2 2 oY _ [] _ _ _ hg15 (Sufs.none w15) true rfl (hE.below B15) wide_Y (by decide) (by rw [key_YY]; decide) (by decide) (by decide) (by decide) (by decide) (by decide) (by decide)
  rw [key_YY] at hf15
  refine hf15.mono ?_
  clear hf15
  rintro e w16 ⟨⟨rfl, hb⟩, hg⟩
  have hg16 : GSt w16 (w.heap.size + 3) w.heap.size (w.heap.size + 1) (w.heap.size + 2) 2 2 3 [(1, false), (2, true)] [(1, ⟨1, 1, kS, false⟩), (2, ⟨2, 2, kX, true⟩), (3, ⟨3, 2, kY, true⟩)] [(1, kS, 1), (2, kX, 2), (2, kY, 3)] := hg
  have B16 : Below w.heap.size w w16 := B15.trans (hb.four B15.size (Nat.le_refl _) (by omega) (by omega) (by omega))
  replace bc := bc.but hb (by simp; omega)
  replace bd := bd.but hb (by simp; omega)
  replace bi := bi.but hb (by simp; omega)
  clear hb hg hg15 B15
  have lc := bc.lt
  have cc := bc.cell
  have fc := bc.frozen
  have ld := bd.lt
  have cd := bd.cell
  have fd := bd.frozen
  have li := bi.lt
  have ci := bi.cell
  have fi := bi.frozen
  have hkn := fun W (hW : Below w.heap.size w W) => groups_key { opaq := true, id := 4 } true (.slice none 0 0) [] W (hE.below hW) ⟨⟨by decide, by decide⟩, by decide, by decide, by decide⟩ (by decide) (Sufs.none W)
  rw [key_null] at hkn
  replace hkn := Lib.hid hkn
  clear hg16
  unfold kS kX kY at *
  go_wp2_with (go_at_call 73; refine (hkn.out _ (bw_)).mono ?_; rintro e w1 ⟨rfl, hb⟩; obtain ⟨hc, hfz⟩ := bcell hb; have hz := hb.size; (try simp at hz); (try have hz0 := lt_ hb w.heap.size); (try have hz1 := lt_ hb (w.heap.size + 1)); (try have hz2 := lt_ hb (w.heap.size + 2)); (try have hz3 := lt_ hb (w.heap.size + 3)); (try have hcA := fun o => hc w.heap.size o sz_); (try have hcB := fun o => hc (w.heap.size + 1) o sz_))
  go_ret
  exact ⟨rfl, bw_⟩
end Go.Proofs.YtbafofldgkigmaaGreatDoor
