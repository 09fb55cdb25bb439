/- glacislaw14: awake. -/
import Derived.Test.YtbafofldgkigmaaGreatDoorCheck14
import Derived.Test.YtbafofldgkigmaaGreatDoorGate
namespace Go.Proofs.YtbafofldgkigmaaGreatDoor
open Go.RowKit
attribute [local irreducible] Calls
theorem Sufs.none14 (w : World) : Sufs w (.slice none 0 0) [] := ⟨⟨Option.none, 0, rfl, Nat.le_refl _, Nat.zero_le _, fun h => absurd h (Nat.lt_irrefl _)⟩, Nat.zero_le _, fun _ h => by cases h⟩
theorem Blk.slots14 {W : World} {g n : Nat} {t : TypeId} {c : Array Value} (h : Blk W g t c) : Slots W W.heap.size (.slice (some ⟨g, 0, Option.none⟩) 1 1) n [c] := by
  refine ⟨_, 1, rfl, Nat.le_refl _, by decide, fun _ => ⟨g, 0, rfl, h.lt, fun j hj i hi => ?_⟩⟩
  obtain rfl : j = 0 := by simpa using hj
  rw [show 0 + 0 * n + i = i by omega, h.cell]
  rfl
theorem Blk.new14 (w : World) (a : Obj) (t : TypeId) (cs : Array Value) : Blk ((w.alloc a).alloc (Obj.cells cs t)) (w.heap.size + 1) t cs := by
  have := Blk.new (w.alloc a) t cs
  simpa [World.size_alloc] using this
def u14A : Gl.URL := { scheme := [104, 116, 116, 112, 115], host := { name := [97, 46, 120, 46, 121] }, port := -1, path := [47] }
def u14B : Gl.URL := { scheme := [104, 116, 116, 112, 115], host := { name := [98, 46, 120, 46, 121] }, port := -1, path := [47] }
def o14A : Gl.Origin := { scheme := [104, 116, 116, 112, 115], host := { name := [97, 46, 120, 46, 121] }, port := 443 }
def t14A : List UInt8 := [104, 116, 116, 112, 115, 58, 47, 47, 97, 46, 120, 46, 121, 47]
def t14B : List UInt8 := [104, 116, 116, 112, 115, 58, 47, 47, 98, 46, 120, 46, 121, 47]
def hd14 : Gl.Head := ⟨[67, 114, 111, 115, 115, 45, 79, 114, 105, 103, 105, 110, 45, 82, 101, 115, 111, 117, 114, 99, 101, 45, 80, 111, 108, 105, 99, 121], [115, 97, 109, 101, 45, 115, 105, 116, 101]⟩
set_option maxRecDepth 100000 in
theorem parse14A : Gl.parse t14A = (u14A, 0) := by decide +kernel
set_option maxRecDepth 100000 in
theorem parse14B : Gl.parse t14B = (u14B, 0) := by decide +kernel
set_option maxRecDepth 100000 in
theorem of14A : Gl.originOf u14A 0 = o14A := by decide +kernel
theorem bare14 : Gl.isNet u14B = true ∧ Gl.corp [] = 0 ∧ Gl.originSame o14A (Gl.originOf u14B 0) = false := by decide +kernel
set_option maxRecDepth 100000 in
theorem site14 : Gl.corp [hd14] = 2 ∧ Gl.sameSite o14A (Gl.originOf u14B 0) [] = true := by decide +kernel
theorem gate14 (k : Int) (creds nav : Bool) : Gl.gate o14A u14B [] k creds nav [] = !Gl.strictC k creds nav := by
  unfold Gl.gate Gl.gateC
  rw [bare14.1, bare14.2.1, bare14.2.2]
  cases Gl.strictC k creds nav <;> rfl
theorem gate14s (k : Int) (creds nav : Bool) : Gl.gate o14A u14B [hd14] k creds nav [] = true := by
  unfold Gl.gate Gl.gateC
  rw [bare14.1, site14.1, site14.2]
  rfl
theorem fits14 : OFits o14A := ⟨by decide, by decide⟩
theorem hop14 : HopFit u14B [] := ⟨(by intro h hh; cases hh), by decide, by decide, by decide, by decide⟩
theorem hop14s : HopFit u14B [hd14] := ⟨(by intro h hh; simp at hh; subst hh; exact ⟨by decide, by decide⟩), by decide, by decide, by decide, by decide⟩
set_option maxHeartbeats 4000000 in
set_option maxRecDepth 100000 in
theorem awake14 (w : World) (hE : Env w) : Calls Tryz.prog 14 #[] w (Ret w (.bool true)) := by
  have hA := fun W (hW : Below w.heap.size w W) => urlp_parse t14A W (by decide) (hE.below hW)
  have hB := fun W (hW : Below w.heap.size w W) => urlp_parse t14B W (by decide) (hE.below hW)
  have hO := fun W (hW : Below w.heap.size w W) => origin_of u14A 0 W (hE.below hW) (by decide)
  rw [parse14A] at hA
  rw [parse14B] at hB
  rw [of14A] at hO
  unfold t14A u14A at hA
  unfold t14B u14B at hB
  unfold u14A o14A at hO
  have hI : ∀ (k : Int) (nav creds : Bool) W, Below w.heap.size w W → Calls Tryz.prog 21 #[.agg #[.bool false, .int .i64 0, .string ⟨#[104, 116, 116, 112, 115]⟩, .string ⟨#[97, 46, 120, 46, 121]⟩, .bool false, .int .u32 0, .int .i64 443], .int .i64 k, .bool nav, .agg #[.string ⟨#[104, 116, 116, 112, 115]⟩, .string ⟨#[98, 46, 120, 46, 121]⟩, .bool false, .int .u32 0, .int .i64 (-1), .string ⟨#[47]⟩, .bool false, .string ⟨#[]⟩, .string ⟨#[]⟩, .slice none 0 0], .bool creds, .slice none 0 0] W (Ret W (.bool (!Gl.strictC k creds nav))) := fun k nav creds W hW => by
    have := corp_inner o14A k nav creds u14B (.slice none 0 0) [] (.slice none 0 0) [] W (hE.below hW) fits14 (Slots.empty W 2) hop14 (Sufs.none14 W)
    rw [show Gl.gateC o14A (Gl.originOf u14B 0) (Gl.isNet u14B) (Gl.corp []) (Gl.strictC k creds nav) [] = !Gl.strictC k creds nav from gate14 k creds nav] at this
    exact this
  have hI1 := hI 0 false true
  have hI2 := hI 2 false false
  have hI3 := hI 1 false false
  have hI4 := hI 1 true false
  have hC : ∀ W, Below w.heap.size w W → Calls Tryz.prog 17 #[.agg #[.bool false, .int .i64 0, .string ⟨#[104, 116, 116, 112, 115]⟩, .string ⟨#[97, 46, 120, 46, 121]⟩, .bool false, .int .u32 0, .int .i64 443], .agg #[.int .i64 2, .string ⟨#[]⟩, .int .i64 1, .string ⟨#[]⟩], .bool false, .agg #[.string ⟨#[104, 116, 116, 112, 115]⟩, .string ⟨#[98, 46, 120, 46, 121]⟩, .bool false, .int .u32 0, .int .i64 (-1), .string ⟨#[47]⟩, .bool false, .string ⟨#[]⟩, .string ⟨#[]⟩, .slice none 0 0], .bool false, .slice none 0 0] W (Ret W (.agg #[.bool false, .bool true, .bool false])) := fun W hW => by
    have := corp_check o14A 2 1 [] [] false false u14B (.slice none 0 0) [] (.slice none 0 0) [] W (hE.below hW) fits14 (Slots.empty W 2) hop14 (Sufs.none14 W)
    rw [gate14, gate14, gate14] at this
    exact this
  have hI5 : ∀ gV W, Below w.heap.size w W → Blk W gV 39 #[.string ⟨#[67, 114, 111, 115, 115, 45, 79, 114, 105, 103, 105, 110, 45, 82, 101, 115, 111, 117, 114, 99, 101, 45, 80, 111, 108, 105, 99, 121]⟩, .string ⟨#[115, 97, 109, 101, 45, 115, 105, 116, 101]⟩] → Calls Tryz.prog 21 #[.agg #[.bool false, .int .i64 0, .string ⟨#[104, 116, 116, 112, 115]⟩, .string ⟨#[97, 46, 120, 46, 121]⟩, .bool false, .int .u32 0, .int .i64 443], .int .i64 2, .bool true, .agg #[.string ⟨#[104, 116, 116, 112, 115]⟩, .string ⟨#[98, 46, 120, 46, 121]⟩, .bool false, .int .u32 0, .int .i64 (-1), .string ⟨#[47]⟩, .bool false, .string ⟨#[]⟩, .string ⟨#[]⟩, .slice (some ⟨gV, 0, none⟩) 1 1], .bool true, .slice none 0 0] W (Ret W (.bool true)) := fun gV W hW hL => by
    have := corp_inner o14A 2 true true u14B (.slice (some ⟨gV, 0, none⟩) 1 1) [hd14] (.slice none 0 0) [] W (hE.below hW) fits14 (Blk.slots14 (c := hcells hd14) hL) hop14s (Sufs.none14 W)
    rw [show Gl.gateC o14A (Gl.originOf u14B 0) (Gl.isNet u14B) (Gl.corp [hd14]) (Gl.strictC 2 true true) [] = true from gate14s 2 true true] at this
    exact this
  replace hI1 : ∀ W, Below w.heap.size w W → Calls Tryz.prog 21 #[.agg #[.bool false, .int .i64 0, .string ⟨#[104, 116, 116, 112, 115]⟩, .string ⟨#[97, 46, 120, 46, 121]⟩, .bool false, .int .u32 0, .int .i64 443], .int .i64 0, .bool false, .agg #[.string ⟨#[104, 116, 116, 112, 115]⟩, .string ⟨#[98, 46, 120, 46, 121]⟩, .bool false, .int .u32 0, .int .i64 (-1), .string ⟨#[47]⟩, .bool false, .string ⟨#[]⟩, .string ⟨#[]⟩, .slice none 0 0], .bool true, .slice none 0 0] W (Ret W (.bool true)) := hI1
  replace hI2 : ∀ W, Below w.heap.size w W → Calls Tryz.prog 21 #[.agg #[.bool false, .int .i64 0, .string ⟨#[104, 116, 116, 112, 115]⟩, .string ⟨#[97, 46, 120, 46, 121]⟩, .bool false, .int .u32 0, .int .i64 443], .int .i64 2, .bool false, .agg #[.string ⟨#[104, 116, 116, 112, 115]⟩, .string ⟨#[98, 46, 120, 46, 121]⟩, .bool false, .int .u32 0, .int .i64 (-1), .string ⟨#[47]⟩, .bool false, .string ⟨#[]⟩, .string ⟨#[]⟩, .slice none 0 0], .bool false, .slice none 0 0] W (Ret W (.bool false)) := hI2
  replace hI3 : ∀ W, Below w.heap.size w W → Calls Tryz.prog 21 #[.agg #[.bool false, .int .i64 0, .string ⟨#[104, 116, 116, 112, 115]⟩, .string ⟨#[97, 46, 120, 46, 121]⟩, .bool false, .int .u32 0, .int .i64 443], .int .i64 1, .bool false, .agg #[.string ⟨#[104, 116, 116, 112, 115]⟩, .string ⟨#[98, 46, 120, 46, 121]⟩, .bool false, .int .u32 0, .int .i64 (-1), .string ⟨#[47]⟩, .bool false, .string ⟨#[]⟩, .string ⟨#[]⟩, .slice none 0 0], .bool false, .slice none 0 0] W (Ret W (.bool true)) := hI3
  replace hI4 : ∀ W, Below w.heap.size w W → Calls Tryz.prog 21 #[.agg #[.bool false, .int .i64 0, .string ⟨#[104, 116, 116, 112, 115]⟩, .string ⟨#[97, 46, 120, 46, 121]⟩, .bool false, .int .u32 0, .int .i64 443], .int .i64 1, .bool true, .agg #[.string ⟨#[104, 116, 116, 112, 115]⟩, .string ⟨#[98, 46, 120, 46, 121]⟩, .bool false, .int .u32 0, .int .i64 (-1), .string ⟨#[47]⟩, .bool false, .string ⟨#[]⟩, .string ⟨#[]⟩, .slice none 0 0], .bool false, .slice none 0 0] W (Ret W (.bool false)) := hI4
  clear hI
  replace hA := Lib.hid hA
  replace hB := Lib.hid hB
  replace hO := Lib.hid hO
  replace hI1 := Lib.hid hI1
  replace hI2 := Lib.hid hI2
  replace hI3 := Lib.hid hI3
  replace hI4 := Lib.hid hI4
  replace hC := Lib.hid hC
  replace hI5 := Lib.hid hI5
  go_enter Tryz.func14, Tryz.ntmps14
  go_upto_region 1 with fail
  go_cut [1, 2] from 11 (fun x1 x2 w' => ∃ gC, x1 = .pointer (some ⟨gC, 0, none⟩) ∧ x2 = .int .i64 0 ∧ Below w.heap.size w w' ∧ Blk w' gC 28 #[.string ⟨#[104, 116, 116, 112, 115]⟩, .string ⟨#[97, 46, 120, 46, 121]⟩, .bool false, .int .u32 0, .int .i64 (-1), .string ⟨#[47]⟩, .bool false, .string ⟨#[]⟩, .string ⟨#[]⟩])
  case first =>
    go_wp2_with (go_at_call 19; refine (hA.out _ (bw_)).mono ?_; rintro e w1 ⟨rfl, hb⟩; obtain ⟨hc, hfz⟩ := bcell hb; have hz := hb.size; (try simp at hz); (try have hz0 := lt_ hb w.heap.size); (try have hz1 := lt_ hb (w.heap.size + 1)); (try have hz2 := lt_ hb (w.heap.size + 2)); (try have hz3 := lt_ hb (w.heap.size + 3)); (try have hcA := fun o => hc w.heap.size o sz_); (try have hcB := fun o => hc (w.heap.size + 1) o sz_); (try (have i := cf_ hb gA; obtain ⟨hcGgA, hfGgA, hzGgA⟩ := i)); (try (have i := cf_ hb gB; obtain ⟨hcGgB, hfGgB, hzGgB⟩ := i)); (try (have i := cf_ hb gC; obtain ⟨hcGgC, hfGgC, hzGgC⟩ := i)); (try (have i := cf_ hb gD; obtain ⟨hcGgD, hfGgD, hzGgD⟩ := i)); (try (have i := cf_ hb gE; obtain ⟨hcGgE, hfGgE, hzGgE⟩ := i)); (try (have i := cf_ hb gF; obtain ⟨hcGgF, hfGgF, hzGgF⟩ := i)); (try (have i := cf_ hb gV; obtain ⟨hcGgV, hfGgV, hzGgV⟩ := i)))
    go_meet
    case rel => exact ⟨_, rfl, rfl, bw_, bk_⟩
  case rest =>
  obtain ⟨gC, rfl, rfl, hw, hBC⟩ := hcut
  have hwz := hw.size
  have hCl := hBC.lt
  have hCc := hBC.cell
  have hCf := hBC.frozen
  go_upto_region 2 with fail
  go_cut [3, 4] from 11 (fun x3 x4 w' => ∃ gD, x3 = .pointer (some ⟨gD, 0, none⟩) ∧ x4 = .int .i64 0 ∧ Below w.heap.size w w' ∧ Blk w' gC 28 #[.string ⟨#[104, 116, 116, 112, 115]⟩, .string ⟨#[97, 46, 120, 46, 121]⟩, .bool false, .int .u32 0, .int .i64 (-1), .string ⟨#[47]⟩, .bool false, .string ⟨#[]⟩, .string ⟨#[]⟩] ∧ Blk w' gD 28 #[.string ⟨#[104, 116, 116, 112, 115]⟩, .string ⟨#[98, 46, 120, 46, 121]⟩, .bool false, .int .u32 0, .int .i64 (-1), .string ⟨#[47]⟩, .bool false, .string ⟨#[]⟩, .string ⟨#[]⟩])
  case first =>
    go_wp2_with (go_at_call 19; refine (hB.out _ (bw_)).mono ?_; rintro e w1 ⟨rfl, hb⟩; obtain ⟨hc, hfz⟩ := bcell hb; have hz := hb.size; (try simp at hz); (try have hz0 := lt_ hb w.heap.size); (try have hz1 := lt_ hb (w.heap.size + 1)); (try have hz2 := lt_ hb (w.heap.size + 2)); (try have hz3 := lt_ hb (w.heap.size + 3)); (try have hcA := fun o => hc w.heap.size o sz_); (try have hcB := fun o => hc (w.heap.size + 1) o sz_); (try (have i := cf_ hb gA; obtain ⟨hcGgA, hfGgA, hzGgA⟩ := i)); (try (have i := cf_ hb gB; obtain ⟨hcGgB, hfGgB, hzGgB⟩ := i)); (try (have i := cf_ hb gC; obtain ⟨hcGgC, hfGgC, hzGgC⟩ := i)); (try (have i := cf_ hb gD; obtain ⟨hcGgD, hfGgD, hzGgD⟩ := i)); (try (have i := cf_ hb gE; obtain ⟨hcGgE, hfGgE, hzGgE⟩ := i)); (try (have i := cf_ hb gF; obtain ⟨hcGgF, hfGgF, hzGgF⟩ := i)); (try (have i := cf_ hb gV; obtain ⟨hcGgV, hfGgV, hzGgV⟩ := i)))
    go_meet
    case rel => exact ⟨_, rfl, rfl, bw_, bk_, bk_⟩
  case rest =>
  clear hw hwz hBC hCl hCc hCf
  obtain ⟨gD, rfl, rfl, hw, hBC, hBD⟩ := hcut
  have hwz := hw.size
  have hCl := hBC.lt
  have hCc := hBC.cell
  have hCf := hBC.frozen
  have hDl := hBD.lt
  have hDc := hBD.cell
  have hDf := hBD.frozen
  go_upto_region 3 with fail
  go_cut [5] from 11 (fun x5 w' => ∃ gA, x5 = .pointer (some ⟨gA, 0, none⟩) ∧ Below w.heap.size w w' ∧ Blk w' gD 28 #[.string ⟨#[104, 116, 116, 112, 115]⟩, .string ⟨#[98, 46, 120, 46, 121]⟩, .bool false, .int .u32 0, .int .i64 (-1), .string ⟨#[47]⟩, .bool false, .string ⟨#[]⟩, .string ⟨#[]⟩] ∧ Blk w' gA 35 #[.bool false, .int .i64 0, .string ⟨#[104, 116, 116, 112, 115]⟩, .string ⟨#[97, 46, 120, 46, 121]⟩, .bool false, .int .u32 0, .int .i64 443])
  case first =>
    go_wp2_with (go_at_call 15; refine (hO.out _ (bw_)).mono ?_; rintro e w1 ⟨rfl, hb⟩; obtain ⟨hc, hfz⟩ := bcell hb; have hz := hb.size; (try simp at hz); (try have hz0 := lt_ hb w.heap.size); (try have hz1 := lt_ hb (w.heap.size + 1)); (try have hz2 := lt_ hb (w.heap.size + 2)); (try have hz3 := lt_ hb (w.heap.size + 3)); (try have hcA := fun o => hc w.heap.size o sz_); (try have hcB := fun o => hc (w.heap.size + 1) o sz_); (try (have i := cf_ hb gA; obtain ⟨hcGgA, hfGgA, hzGgA⟩ := i)); (try (have i := cf_ hb gB; obtain ⟨hcGgB, hfGgB, hzGgB⟩ := i)); (try (have i := cf_ hb gC; obtain ⟨hcGgC, hfGgC, hzGgC⟩ := i)); (try (have i := cf_ hb gD; obtain ⟨hcGgD, hfGgD, hzGgD⟩ := i)); (try (have i := cf_ hb gE; obtain ⟨hcGgE, hfGgE, hzGgE⟩ := i)); (try (have i := cf_ hb gF; obtain ⟨hcGgF, hfGgF, hzGgF⟩ := i)); (try (have i := cf_ hb gV; obtain ⟨hcGgV, hfGgV, hzGgV⟩ := i)))
    go_meet
    case rel => exact ⟨_, rfl, bw_, bk_, bk_⟩
  case rest =>
  clear hw hwz hBC hCl hCc hCf hBD hDl hDc hDf
  obtain ⟨gA, rfl, hw, hBD, hBA⟩ := hcut
  have hwz := hw.size
  have hDl := hBD.lt
  have hDc := hBD.cell
  have hDf := hBD.frozen
  have hAl := hBA.lt
  have hAc := hBA.cell
  have hAf := hBA.frozen
  go_upto_region 4 with fail
  go_cut [6] from 11 (fun x6 w' => ∃ gB, x6 = .pointer (some ⟨gB, 0, none⟩) ∧ Below w.heap.size w w' ∧ Blk w' gD 28 #[.string ⟨#[104, 116, 116, 112, 115]⟩, .string ⟨#[98, 46, 120, 46, 121]⟩, .bool false, .int .u32 0, .int .i64 (-1), .string ⟨#[47]⟩, .bool false, .string ⟨#[]⟩, .string ⟨#[]⟩] ∧ Blk w' gA 35 #[.bool false, .int .i64 0, .string ⟨#[104, 116, 116, 112, 115]⟩, .string ⟨#[97, 46, 120, 46, 121]⟩, .bool false, .int .u32 0, .int .i64 443] ∧ Blk w' gB 31 #[.string ⟨#[104, 116, 116, 112, 115]⟩, .string ⟨#[98, 46, 120, 46, 121]⟩, .bool false, .int .u32 0, .int .i64 (-1), .string ⟨#[47]⟩, .bool false, .string ⟨#[]⟩, .string ⟨#[]⟩, .slice none 0 0])
  case first =>
    go_wp2_with fail
    go_meet
    case rel => exact ⟨_, rfl, bw_, bk_, bk_, bk_⟩
  case rest =>
  clear hw hwz hBD hDl hDc hDf hBA hAl hAc hAf
  obtain ⟨gB, rfl, hw, hBD, hBA, hBB⟩ := hcut
  have hwz := hw.size
  have hDl := hBD.lt
  have hDc := hBD.cell
  have hDf := hBD.frozen
  have hAl := hBA.lt
  have hAc := hBA.cell
  have hAf := hBA.frozen
  have hBl := hBB.lt
  have hBc := hBB.cell
  have hBf := hBB.frozen
  go_upto_region 5 with fail
  go_cut [7] from 11 (fun x7 w' => ∃ gV gE, x7 = .pointer (some ⟨gE, 0, none⟩) ∧ Below w.heap.size w w' ∧ Blk w' gA 35 #[.bool false, .int .i64 0, .string ⟨#[104, 116, 116, 112, 115]⟩, .string ⟨#[97, 46, 120, 46, 121]⟩, .bool false, .int .u32 0, .int .i64 443] ∧ Blk w' gB 31 #[.string ⟨#[104, 116, 116, 112, 115]⟩, .string ⟨#[98, 46, 120, 46, 121]⟩, .bool false, .int .u32 0, .int .i64 (-1), .string ⟨#[47]⟩, .bool false, .string ⟨#[]⟩, .string ⟨#[]⟩, .slice none 0 0] ∧ Blk w' gV 39 #[.string ⟨#[67, 114, 111, 115, 115, 45, 79, 114, 105, 103, 105, 110, 45, 82, 101, 115, 111, 117, 114, 99, 101, 45, 80, 111, 108, 105, 99, 121]⟩, .string ⟨#[115, 97, 109, 101, 45, 115, 105, 116, 101]⟩] ∧ Blk w' gE 31 #[.string ⟨#[104, 116, 116, 112, 115]⟩, .string ⟨#[98, 46, 120, 46, 121]⟩, .bool false, .int .u32 0, .int .i64 (-1), .string ⟨#[47]⟩, .bool false, .string ⟨#[]⟩, .string ⟨#[]⟩, .slice (some ⟨gV, 0, none⟩) 1 1])
  case first =>
    go_wp2_with fail
    go_meet
    case rel => exact ⟨wc.heap.size, wc.heap.size + 1, rfl, bw_, bk_, bk_, bk_, Blk.new14 _ _ _ _⟩
  case rest =>
  clear hw hwz hBD hDl hDc hDf hBA hAl hAc hAf hBB hBl hBc hBf
  obtain ⟨gV, gE, rfl, hw, hBA, hBB, hBV, hBE⟩ := hcut
  have hwz := hw.size
  have hAl := hBA.lt
  have hAc := hBA.cell
  have hAf := hBA.frozen
  have hBl := hBB.lt
  have hBc := hBB.cell
  have hBf := hBB.frozen
  have hVl := hBV.lt
  have hVc := hBV.cell
  have hVf := hBV.frozen
  have hEl := hBE.lt
  have hEc := hBE.cell
  have hEf := hBE.frozen
  go_upto_region 6 with fail
  go_cut [8] from 11 (fun x8 w' => x8 = .bool true ∧ Below w.heap.size w w' ∧ Blk w' gA 35 #[.bool false, .int .i64 0, .string ⟨#[104, 116, 116, 112, 115]⟩, .string ⟨#[97, 46, 120, 46, 121]⟩, .bool false, .int .u32 0, .int .i64 443] ∧ Blk w' gB 31 #[.string ⟨#[104, 116, 116, 112, 115]⟩, .string ⟨#[98, 46, 120, 46, 121]⟩, .bool false, .int .u32 0, .int .i64 (-1), .string ⟨#[47]⟩, .bool false, .string ⟨#[]⟩, .string ⟨#[]⟩, .slice none 0 0] ∧ Blk w' gV 39 #[.string ⟨#[67, 114, 111, 115, 115, 45, 79, 114, 105, 103, 105, 110, 45, 82, 101, 115, 111, 117, 114, 99, 101, 45, 80, 111, 108, 105, 99, 121]⟩, .string ⟨#[115, 97, 109, 101, 45, 115, 105, 116, 101]⟩] ∧ Blk w' gE 31 #[.string ⟨#[104, 116, 116, 112, 115]⟩, .string ⟨#[98, 46, 120, 46, 121]⟩, .bool false, .int .u32 0, .int .i64 (-1), .string ⟨#[47]⟩, .bool false, .string ⟨#[]⟩, .string ⟨#[]⟩, .slice (some ⟨gV, 0, none⟩) 1 1])
  case first =>
    go_wp2_with (first | ((first | (go_at_call 21; refine (hI1.out _ (bw_)).mono ?_) | (go_at_call 21; refine (hI2.out _ (bw_)).mono ?_)); rintro e w1 ⟨rfl, hb⟩; obtain ⟨hc, hfz⟩ := bcell hb; have hz := hb.size; (try simp at hz); (try have hz0 := lt_ hb w.heap.size); (try have hz1 := lt_ hb (w.heap.size + 1)); (try have hz2 := lt_ hb (w.heap.size + 2)); (try have hz3 := lt_ hb (w.heap.size + 3)); (try have hcA := fun o => hc w.heap.size o sz_); (try have hcB := fun o => hc (w.heap.size + 1) o sz_); (try (have i := cf_ hb gA; obtain ⟨hcGgA, hfGgA, hzGgA⟩ := i)); (try (have i := cf_ hb gB; obtain ⟨hcGgB, hfGgB, hzGgB⟩ := i)); (try (have i := cf_ hb gC; obtain ⟨hcGgC, hfGgC, hzGgC⟩ := i)); (try (have i := cf_ hb gD; obtain ⟨hcGgD, hfGgD, hzGgD⟩ := i)); (try (have i := cf_ hb gE; obtain ⟨hcGgE, hfGgE, hzGgE⟩ := i)); (try (have i := cf_ hb gF; obtain ⟨hcGgF, hfGgF, hzGgF⟩ := i)); (try (have i := cf_ hb gV; obtain ⟨hcGgV, hfGgV, hzGgV⟩ := i))))
    go_meet
    case rel => exact ⟨rfl, bw_, bk_, bk_, bk_, bk_⟩
  case rest =>
  clear hw hwz hBA hAl hAc hAf hBB hBl hBc hBf hBV hVl hVc hVf hBE hEl hEc hEf
  obtain ⟨rfl, hw, hBA, hBB, hBV, hBE⟩ := hcut
  have hwz := hw.size
  have hAl := hBA.lt
  have hAc := hBA.cell
  have hAf := hBA.frozen
  have hBl := hBB.lt
  have hBc := hBB.cell
  have hBf := hBB.frozen
  have hVl := hBV.lt
  have hVc := hBV.cell
  have hVf := hBV.frozen
  have hEl := hBE.lt
  have hEc := hBE.cell
  have hEf := hBE.frozen
  go_upto_region 7 with fail
  go_cut [9] from 11 (fun x9 w' => x9 = .bool true ∧ Below w.heap.size w w' ∧ Blk w' gA 35 #[.bool false, .int .i64 0, .string ⟨#[104, 116, 116, 112, 115]⟩, .string ⟨#[97, 46, 120, 46, 121]⟩, .bool false, .int .u32 0, .int .i64 443] ∧ Blk w' gB 31 #[.string ⟨#[104, 116, 116, 112, 115]⟩, .string ⟨#[98, 46, 120, 46, 121]⟩, .bool false, .int .u32 0, .int .i64 (-1), .string ⟨#[47]⟩, .bool false, .string ⟨#[]⟩, .string ⟨#[]⟩, .slice none 0 0] ∧ Blk w' gV 39 #[.string ⟨#[67, 114, 111, 115, 115, 45, 79, 114, 105, 103, 105, 110, 45, 82, 101, 115, 111, 117, 114, 99, 101, 45, 80, 111, 108, 105, 99, 121]⟩, .string ⟨#[115, 97, 109, 101, 45, 115, 105, 116, 101]⟩] ∧ Blk w' gE 31 #[.string ⟨#[104, 116, 116, 112, 115]⟩, .string ⟨#[98, 46, 120, 46, 121]⟩, .bool false, .int .u32 0, .int .i64 (-1), .string ⟨#[47]⟩, .bool false, .string ⟨#[]⟩, .string ⟨#[]⟩, .slice (some ⟨gV, 0, none⟩) 1 1])
  case first =>
    go_wp2_with (first | ((first | (go_at_call 21; refine (hI3.out _ (bw_)).mono ?_) | (go_at_call 21; refine (hI4.out _ (bw_)).mono ?_)); rintro e w1 ⟨rfl, hb⟩; obtain ⟨hc, hfz⟩ := bcell hb; have hz := hb.size; (try simp at hz); (try have hz0 := lt_ hb w.heap.size); (try have hz1 := lt_ hb (w.heap.size + 1)); (try have hz2 := lt_ hb (w.heap.size + 2)); (try have hz3 := lt_ hb (w.heap.size + 3)); (try have hcA := fun o => hc w.heap.size o sz_); (try have hcB := fun o => hc (w.heap.size + 1) o sz_); (try (have i := cf_ hb gA; obtain ⟨hcGgA, hfGgA, hzGgA⟩ := i)); (try (have i := cf_ hb gB; obtain ⟨hcGgB, hfGgB, hzGgB⟩ := i)); (try (have i := cf_ hb gC; obtain ⟨hcGgC, hfGgC, hzGgC⟩ := i)); (try (have i := cf_ hb gD; obtain ⟨hcGgD, hfGgD, hzGgD⟩ := i)); (try (have i := cf_ hb gE; obtain ⟨hcGgE, hfGgE, hzGgE⟩ := i)); (try (have i := cf_ hb gF; obtain ⟨hcGgF, hfGgF, hzGgF⟩ := i)); (try (have i := cf_ hb gV; obtain ⟨hcGgV, hfGgV, hzGgV⟩ := i))))
    go_meet
    case rel => exact ⟨rfl, bw_, bk_, bk_, bk_, bk_⟩
  case rest =>
  clear hw hwz hBA hAl hAc hAf hBB hBl hBc hBf hBV hVl hVc hVf hBE hEl hEc hEf
  obtain ⟨rfl, hw, hBA, hBB, hBV, hBE⟩ := hcut
  have hwz := hw.size
  have hAl := hBA.lt
  have hAc := hBA.cell
  have hAf := hBA.frozen
  have hBl := hBB.lt
  have hBc := hBB.cell
  have hBf := hBB.frozen
  have hVl := hBV.lt
  have hVc := hBV.cell
  have hVf := hBV.frozen
  have hEl := hBE.lt
  have hEc := hBE.cell
  have hEf := hBE.frozen
  go_upto_region 8 with fail
  go_cut [10] from 11 (fun x10 w' => ∃ gF, x10 = .pointer (some ⟨gF, 0, none⟩) ∧ Below w.heap.size w w' ∧ Blk w' gA 35 #[.bool false, .int .i64 0, .string ⟨#[104, 116, 116, 112, 115]⟩, .string ⟨#[97, 46, 120, 46, 121]⟩, .bool false, .int .u32 0, .int .i64 443] ∧ Blk w' gV 39 #[.string ⟨#[67, 114, 111, 115, 115, 45, 79, 114, 105, 103, 105, 110, 45, 82, 101, 115, 111, 117, 114, 99, 101, 45, 80, 111, 108, 105, 99, 121]⟩, .string ⟨#[115, 97, 109, 101, 45, 115, 105, 116, 101]⟩] ∧ Blk w' gE 31 #[.string ⟨#[104, 116, 116, 112, 115]⟩, .string ⟨#[98, 46, 120, 46, 121]⟩, .bool false, .int .u32 0, .int .i64 (-1), .string ⟨#[47]⟩, .bool false, .string ⟨#[]⟩, .string ⟨#[]⟩, .slice (some ⟨gV, 0, none⟩) 1 1] ∧ Blk w' gF 41 #[.bool false, .bool true, .bool false])
  case first =>
    go_wp2_with (go_at_call 17; refine (hC.out _ (bw_)).mono ?_; rintro e w1 ⟨rfl, hb⟩; obtain ⟨hc, hfz⟩ := bcell hb; have hz := hb.size; (try simp at hz); (try have hz0 := lt_ hb w.heap.size); (try have hz1 := lt_ hb (w.heap.size + 1)); (try have hz2 := lt_ hb (w.heap.size + 2)); (try have hz3 := lt_ hb (w.heap.size + 3)); (try have hcA := fun o => hc w.heap.size o sz_); (try have hcB := fun o => hc (w.heap.size + 1) o sz_); (try (have i := cf_ hb gA; obtain ⟨hcGgA, hfGgA, hzGgA⟩ := i)); (try (have i := cf_ hb gB; obtain ⟨hcGgB, hfGgB, hzGgB⟩ := i)); (try (have i := cf_ hb gC; obtain ⟨hcGgC, hfGgC, hzGgC⟩ := i)); (try (have i := cf_ hb gD; obtain ⟨hcGgD, hfGgD, hzGgD⟩ := i)); (try (have i := cf_ hb gE; obtain ⟨hcGgE, hfGgE, hzGgE⟩ := i)); (try (have i := cf_ hb gF; obtain ⟨hcGgF, hfGgF, hzGgF⟩ := i)); (try (have i := cf_ hb gV; obtain ⟨hcGgV, hfGgV, hzGgV⟩ := i)))
    go_meet
    case rel => exact ⟨_, rfl, bw_, bk_, bk_, bk_, bk_⟩
  case rest =>
  clear hw hwz hBA hAl hAc hAf hBB hBl hBc hBf hBV hVl hVc hVf hBE hEl hEc hEf
  obtain ⟨gF, rfl, hw, hBA, hBV, hBE, hBF⟩ := hcut
  have hwz := hw.size
  have hAl := hBA.lt
  have hAc := hBA.cell
  have hAf := hBA.frozen
  have hVl := hBV.lt
  have hVc := hBV.cell
  have hVf := hBV.frozen
  have hEl := hBE.lt
  have hEc := hBE.cell
  have hEf := hBE.frozen
  have hFl := hBF.lt
  have hFc := hBF.cell
  have hFf := hBF.frozen
  go_wp2_with (go_at_call 21; refine (hI5.out _ _ (bw_) (bk_)).mono ?_; rintro e w1 ⟨rfl, hb⟩; obtain ⟨hc, hfz⟩ := bcell hb; have hz := hb.size; (try simp at hz); (try have hz0 := lt_ hb w.heap.size); (try have hz1 := lt_ hb (w.heap.size + 1)); (try have hz2 := lt_ hb (w.heap.size + 2)); (try have hz3 := lt_ hb (w.heap.size + 3)); (try have hcA := fun o => hc w.heap.size o sz_); (try have hcB := fun o => hc (w.heap.size + 1) o sz_); (try (have i := cf_ hb gA; obtain ⟨hcGgA, hfGgA, hzGgA⟩ := i)); (try (have i := cf_ hb gB; obtain ⟨hcGgB, hfGgB, hzGgB⟩ := i)); (try (have i := cf_ hb gC; obtain ⟨hcGgC, hfGgC, hzGgC⟩ := i)); (try (have i := cf_ hb gD; obtain ⟨hcGgD, hfGgD, hzGgD⟩ := i)); (try (have i := cf_ hb gE; obtain ⟨hcGgE, hfGgE, hzGgE⟩ := i)); (try (have i := cf_ hb gF; obtain ⟨hcGgF, hfGgF, hzGgF⟩ := i)); (try (have i := cf_ hb gV; obtain ⟨hcGgV, hfGgV, hzGgV⟩ := i)))
  go_ret
  exact ⟨rfl, bw_⟩
end Go.Proofs.YtbafofldgkigmaaGreatDoor
