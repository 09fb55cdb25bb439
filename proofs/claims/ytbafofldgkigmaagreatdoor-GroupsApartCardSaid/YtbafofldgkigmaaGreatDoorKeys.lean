/- An origin's key within a group: of the program and of the reference. -/
import Derived.Test.YtbafofldgkigmaaGreatDoorFourB
import Derived.Deep.RegionHeld3
namespace Go.Proofs.YtbafofldgkigmaaGreatDoor
open Go.RowKit
namespace Gl
def nullH : Bs := [110, 117, 108, 108, 35]
def keyOf (o : Origin) (iso : Bool) (S : List Bs) : Bs :=
  if o.opaq then nullH ++ Lib.itoa o.id else if iso then originText o else o.scheme ++ [58, 47, 47] ++ originSite o S
end Gl
attribute [local irreducible] Calls
theorem originSite_len (o : Gl.Origin) (S : List Gl.Bs) (ho : OFits o) : (Gl.originSite o S).length ≤ 2000000 := by
  unfold Gl.originSite Gl.siteOf
  split
  · decide
  · split
    · have := hostText_len o.host ho.addr; have := ho.name; omega
    · have h1 := join_len (Gl.siteParts (Gl.split 46 o.host.name) (Gl.best (Gl.split 46 o.host.name) 0 S)) 46
      have h2 := slashed_drop (Gl.split 46 o.host.name) ((Gl.split 46 o.host.name).length - max (Gl.best (Gl.split 46 o.host.name) 0 S) 1 - 1)
      have h3 := slashed_split 46 o.host.name
      have := ho.name
      unfold Gl.siteParts at h1 ⊢
      omega

set_option maxHeartbeats 2000000 in
set_option maxRecDepth 100000 in
theorem groups_key (o : Gl.Origin) (iso : Bool) (v : Value) (S : List (List UInt8)) (w : World) (hE : Env w) (ho : OWide o) (hid : -9223372036854775808 ≤ o.id ∧ o.id ≤ 9223372036854775807) (hv : Sufs w v S) : Calls Tryz.prog 73 #[(Value.agg #[(Value.bool (o).opaq), (Value.int .i64 (o).id), (Value.string ⟨((o).scheme).toArray⟩), (Value.string ⟨(((o).host).name).toArray⟩), (Value.bool ((o).host).v4), (Value.int .u32 (((o).host).addr : Int)), (Value.int .i64 (o).port)]), .bool iso, v] w (Ret w ((Value.string ⟨(Gl.keyOf o iso S).toArray⟩))) := by
  have hR : Gl.keyOf o iso S = if o.opaq then Gl.nullH ++ Lib.itoa o.id else if iso then Gl.originText o else o.scheme ++ [58, 47, 47] ++ Gl.originSite o S := rfl
  have hit := fun (W : World) (hW : Below w.heap.size w W) => itoa_any o.id hid.1 hid.2 W (hE.below hW)
  have hil := Lib.itoa_length_le o.id hid.1 hid.2
  have htx := fun (W : World) (hW : Below w.heap.size w W) => origin_text o W (hE.below hW) ho
  have hst := fun (W : World) (hW : Below w.heap.size w W) => origin_site o v S W (hE.below hW) ho.fits (hv.below hW)
  have hsl := originSite_len o S ho.fits
  have hsc := ho.scheme
  generalize Gl.keyOf o iso S = R at *
  generalize Lib.itoa o.id = it at *
  generalize Gl.originText o = tx at *
  generalize Gl.originSite o S = st at *
  obtain ⟨vA, vc, rfl, _, _, _⟩ := hv.strs
  clear hv ho hid
  obtain ⟨q, i, s, h, p⟩ := o
  simp only at hR hit htx hst hsc ⊢
  replace hit := Lib.hid hit
  replace htx := Lib.hid htx
  replace hst := Lib.hid hst
  cases q
  · cases iso
    · have hf : Hid (R = s ++ 58 :: 47 :: 47 :: st) := Lib.hid (by rw [hR]; simp)
      clear hR
      go_enter Tryz.func73, Tryz.ntmps73
      have hsc2 : (s.length : Int) ≤ 4611686018427387904 := by omega
      go_wp2_with fail
      generalize hW0 : (w.alloc (Obj.cells #[(.bool false), (.int .i64 i), (Value.string ⟨(s).toArray⟩), (Value.string ⟨((h).name).toArray⟩), (Value.bool (h).v4), (Value.int .u32 ((h).addr : Int)), (.int .i64 p)] 35)) = W0
      have hw0 : Below w.heap.size w W0 := by rw [← hW0]; (exact bw_)
      have hBA : Blk W0 (w.heap.size) 35 #[(.bool false), (.int .i64 i), (Value.string ⟨(s).toArray⟩), (Value.string ⟨((h).name).toArray⟩), (Value.bool (h).v4), (Value.int .u32 ((h).addr : Int)), (.int .i64 p)] := by rw [← hW0]; exact (Blk.new _ _ _)
      have hAl := hBA.lt
      have hAc := hBA.cell
      have hAf := hBA.frozen
      clear hW0
      go_region_with (go_at_call 88; refine (hst.out _ (bw_)).mono ?_; rintro e w1 ⟨rfl, hb⟩; obtain ⟨hc, hfz⟩ := bcell hb; have hz := hb.size; (try simp at hz); (try have hz0 := lt_ hb w.heap.size); (try have hz1 := lt_ hb (w.heap.size + 1)); (try have hz2 := lt_ hb (w.heap.size + 2)); (try have hz3 := lt_ hb (w.heap.size + 3)); (try have hcA := fun o => hc w.heap.size o sz_); (try have hcB := fun o => hc (w.heap.size + 1) o sz_))
      all_goals (go_wp2_with fail)
      all_goals go_ret
      all_goals exact ⟨by rw [hf.out]; first | rfl | (simp; done), bw_⟩
    · have hf : Hid (R = tx) := Lib.hid (by rw [hR]; simp)
      clear hR
      go_enter Tryz.func73, Tryz.ntmps73
      go_wp2_with (go_at_call 63; refine (htx.out _ (bw_)).mono ?_; rintro e w1 ⟨rfl, hb⟩; obtain ⟨hc, hfz⟩ := bcell hb; have hz := hb.size; (try simp at hz); (try have hz0 := lt_ hb w.heap.size); (try have hz1 := lt_ hb (w.heap.size + 1)); (try have hz2 := lt_ hb (w.heap.size + 2)); (try have hz3 := lt_ hb (w.heap.size + 3)); (try have hcA := fun o => hc w.heap.size o sz_); (try have hcB := fun o => hc (w.heap.size + 1) o sz_))
      go_ret
      exact ⟨by rw [hf.out] <;> rfl, bw_⟩
  · have hf : Hid (R = 110 :: 117 :: 108 :: 108 :: 35 :: it) := Lib.hid (by rw [hR]; rfl)
    clear hR
    go_enter Tryz.func73, Tryz.ntmps73
    go_wp2_with (go_at_call 94; refine (hit.out _ (bw_)).mono ?_; rintro e w1 ⟨rfl, hb⟩; obtain ⟨hc, hfz⟩ := bcell hb; have hz := hb.size; (try simp at hz); (try have hz0 := lt_ hb w.heap.size); (try have hz1 := lt_ hb (w.heap.size + 1)); (try have hz2 := lt_ hb (w.heap.size + 2)); (try have hz3 := lt_ hb (w.heap.size + 3)); (try have hcA := fun o => hc w.heap.size o sz_); (try have hcB := fun o => hc (w.heap.size + 1) o sz_))
    go_ret
    exact ⟨by rw [hf.out] <;> rfl, bw_⟩

set_option maxHeartbeats 2000000 in
set_option maxRecDepth 100000 in
theorem ref17_key (o : Gl.Origin) (iso : Bool) (v : Value) (S : List (List UInt8)) (w : World) (hE : Env w) (ho : OWide o) (hid : -9223372036854775808 ≤ o.id ∧ o.id ≤ 9223372036854775807) (hv : Sufs w v S) : Calls Tryz.prog 101 #[(Value.agg #[(Value.bool (o).opaq), (Value.int .i64 (o).id), (Value.string ⟨((o).scheme).toArray⟩), (Value.string ⟨(((o).host).name).toArray⟩), (Value.bool ((o).host).v4), (Value.int .u32 (((o).host).addr : Int)), (Value.int .i64 (o).port)]), .bool iso, v] w (Ret w ((Value.string ⟨(Gl.keyOf o iso S).toArray⟩))) := by
  have hR : Gl.keyOf o iso S = if o.opaq then Gl.nullH ++ Lib.itoa o.id else if iso then Gl.originText o else o.scheme ++ [58, 47, 47] ++ Gl.originSite o S := rfl
  have hit := fun (W : World) (hW : Below w.heap.size w W) => itoa_any o.id hid.1 hid.2 W (hE.below hW)
  have hil := Lib.itoa_length_le o.id hid.1 hid.2
  have htx := fun (W : World) (hW : Below w.heap.size w W) => ref4_text o W (hE.below hW) ho
  have hst := fun (W : World) (hW : Below w.heap.size w W) => ref4_site o v S W (hE.below hW) ho.fits (hv.below hW)
  have hsl := originSite_len o S ho.fits
  have hsc := ho.scheme
  generalize Gl.keyOf o iso S = R at *
  generalize Lib.itoa o.id = it at *
  generalize Gl.originText o = tx at *
  generalize Gl.originSite o S = st at *
  obtain ⟨vA, vc, rfl, _, _, _⟩ := hv.strs
  clear hv ho hid
  obtain ⟨q, i, s, h, p⟩ := o
  simp only at hR hit htx hst hsc ⊢
  replace hit := Lib.hid hit
  replace htx := Lib.hid htx
  replace hst := Lib.hid hst
  cases q
  · cases iso
    · have hf : Hid (R = s ++ 58 :: 47 :: 47 :: st) := Lib.hid (by rw [hR]; simp)
      clear hR
      go_enter Tryz.func101, Tryz.ntmps101
      have hsc2 : (s.length : Int) ≤ 4611686018427387904 := by omega
      go_wp2_with fail
      generalize hW0 : (w.alloc (Obj.cells #[(.bool false), (.int .i64 i), (Value.string ⟨(s).toArray⟩), (Value.string ⟨((h).name).toArray⟩), (Value.bool (h).v4), (Value.int .u32 ((h).addr : Int)), (.int .i64 p)] 35)) = W0
      have hw0 : Below w.heap.size w W0 := by rw [← hW0]; (exact bw_)
      have hBA : Blk W0 (w.heap.size) 35 #[(.bool false), (.int .i64 i), (Value.string ⟨(s).toArray⟩), (Value.string ⟨((h).name).toArray⟩), (Value.bool (h).v4), (Value.int .u32 ((h).addr : Int)), (.int .i64 p)] := by rw [← hW0]; exact (Blk.new _ _ _)
      have hAl := hBA.lt
      have hAc := hBA.cell
      have hAf := hBA.frozen
      clear hW0
      go_region_with (go_at_call 125; refine (hst.out _ (bw_)).mono ?_; rintro e w1 ⟨rfl, hb⟩; obtain ⟨hc, hfz⟩ := bcell hb; have hz := hb.size; (try simp at hz); (try have hz0 := lt_ hb w.heap.size); (try have hz1 := lt_ hb (w.heap.size + 1)); (try have hz2 := lt_ hb (w.heap.size + 2)); (try have hz3 := lt_ hb (w.heap.size + 3)); (try have hcA := fun o => hc w.heap.size o sz_); (try have hcB := fun o => hc (w.heap.size + 1) o sz_))
      all_goals (go_wp2_with fail)
      all_goals go_ret
      all_goals exact ⟨by rw [hf.out]; first | rfl | (simp; done), bw_⟩
    · have hf : Hid (R = tx) := Lib.hid (by rw [hR]; simp)
      clear hR
      go_enter Tryz.func101, Tryz.ntmps101
      go_wp2_with (go_at_call 68; refine (htx.out _ (bw_)).mono ?_; rintro e w1 ⟨rfl, hb⟩; obtain ⟨hc, hfz⟩ := bcell hb; have hz := hb.size; (try simp at hz); (try have hz0 := lt_ hb w.heap.size); (try have hz1 := lt_ hb (w.heap.size + 1)); (try have hz2 := lt_ hb (w.heap.size + 2)); (try have hz3 := lt_ hb (w.heap.size + 3)); (try have hcA := fun o => hc w.heap.size o sz_); (try have hcB := fun o => hc (w.heap.size + 1) o sz_))
      go_ret
      exact ⟨by rw [hf.out] <;> rfl, bw_⟩
  · have hf : Hid (R = 110 :: 117 :: 108 :: 108 :: 35 :: it) := Lib.hid (by rw [hR]; rfl)
    clear hR
    go_enter Tryz.func101, Tryz.ntmps101
    go_wp2_with (go_at_call 94; refine (hit.out _ (bw_)).mono ?_; rintro e w1 ⟨rfl, hb⟩; obtain ⟨hc, hfz⟩ := bcell hb; have hz := hb.size; (try simp at hz); (try have hz0 := lt_ hb w.heap.size); (try have hz1 := lt_ hb (w.heap.size + 1)); (try have hz2 := lt_ hb (w.heap.size + 2)); (try have hz3 := lt_ hb (w.heap.size + 3)); (try have hcA := fun o => hc w.heap.size o sz_); (try have hcB := fun o => hc (w.heap.size + 1) o sz_))
    go_ret
    exact ⟨by rw [hf.out] <;> rfl, bw_⟩
end Go.Proofs.YtbafofldgkigmaaGreatDoor
