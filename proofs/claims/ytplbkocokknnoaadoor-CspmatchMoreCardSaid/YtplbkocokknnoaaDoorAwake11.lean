/- glacislaw11: source expressions compared; of; awake. -/
import Derived.Test.YtplbkocokknnoaaDoorFrames
import Derived.Test.YtplbkocokknnoaaDoorFourB
namespace Go.Proofs.YtplbkocokknnoaaDoor
open Go.RowKit
attribute [local irreducible] Calls
section
variable (w : World) (a1 a2 d1 d2 : Int) (b1 b2 c1 c2 : List UInt8)
set_option maxHeartbeats 2000000 in
theorem run_eq_source : (Op.equalIn 10000 87 (.agg #[.int .i64 a1, .string ⟨b1.toArray⟩, .string ⟨c1.toArray⟩, .int .i64 d1]) (.agg #[.int .i64 a2, .string ⟨b2.toArray⟩, .string ⟨c2.toArray⟩, .int .i64 d2])).run Tryd.prog w = .ok ((a1 == a2) && (b1 == b2) && (c1 == c2) && (d1 == d2)) w := by
  rw [show (10000 : Nat) = 9999 + 1 from rfl, run_equalIn_agg w 9999 87 _ _ (by kernel_rfl) (by kernel_rfl)]
  simp only [Program.fieldsOf, Tryd.underlying87]
  go_simp
  by_cases q1 : a1 = a2
  case neg => simp [q1]
  by_cases q2 : b1 = b2
  case neg => simp [q2]
  by_cases q3 : c1 = c2
  case neg => simp [q3]
  by_cases q4 : d1 = d2 <;> simp [q1, q2, q3, q4]
/-- Are the cells of two source expressions the same? -/
def eqS (a1 : Int) (b1 c1 : List UInt8) (d1 : Int) (a2 : Int) (b2 c2 : List UInt8) (d2 : Int) : Bool := (a1 == a2) && (b1 == b2) && (c1 == c2) && (d1 == d2)
@[go_sem] theorem eqS_self : eqS a1 b1 c1 d1 a1 b1 c1 d1 = true := by simp [eqS]
@[go_sem high] theorem run_eql_source : (binOp .eql 87 (.agg #[.int .i64 a1, .string ⟨b1.toArray⟩, .string ⟨c1.toArray⟩, .int .i64 d1]) (.agg #[.int .i64 a2, .string ⟨b2.toArray⟩, .string ⟨c2.toArray⟩, .int .i64 d2])).run Tryd.prog w = .ok (.bool (eqS a1 b1 c1 d1 a2 b2 c2 d2)) w := by
  rw [run_eql_struct, run_eq_source]; rfl
@[go_sem] theorem run_guard_source (op : BinOp) (x y : Operand) (xs ys : Array Value) : (eqGuard op 87 x y (.agg xs) (.agg ys)).run Tryd.prog w = .ok () w := run_eqGuard_agg w op 87 x y xs ys (by kernel_rfl)
end
set_option maxHeartbeats 1000000 in
theorem law11_of (s : List UInt8) (w : World) (hE : Env w) (hs : s.length ≤ 4294967280) : Calls Tryd.prog 33 #[(Value.string ⟨(s).toArray⟩)] w (Ret w ((Value.agg #[(Value.bool (Gl.originOf (Gl.parse s).1 0).opaq), (Value.int .i64 (Gl.originOf (Gl.parse s).1 0).id), (Value.string ⟨((Gl.originOf (Gl.parse s).1 0).scheme).toArray⟩), (Value.string ⟨(((Gl.originOf (Gl.parse s).1 0).host).name).toArray⟩), (Value.bool ((Gl.originOf (Gl.parse s).1 0).host).v4), (Value.int .u32 (((Gl.originOf (Gl.parse s).1 0).host).addr : Int)), (Value.int .i64 (Gl.originOf (Gl.parse s).1 0).port)]))) := by
  have hp := fun W (hW : Below w.heap.size w W) => urlp_parse s W hs (hE.below hW)
  have hr := parse_rest_len s
  generalize Gl.parse s = p at *
  obtain ⟨u, e⟩ := p
  simp only at hp hr ⊢
  have ho := fun W (hW : Below w.heap.size w W) => origin_of u 0 W (hE.below hW) (by omega)
  generalize Gl.originOf u 0 = o at *
  replace hp := Lib.hid hp
  replace ho := Lib.hid ho
  go_enter Tryd.func33, Tryd.ntmps33
  go_wp2_with (first | (go_at_call 6; refine ( hp.out _ (by (repeat' first | (with_reducible exact Below.refl _ _) | (with_reducible refine Below.setCell ?_ (by first | omega | (simp; done) | (simp; omega)) _) | (with_reducible refine Below.alloc ?_ (by first | omega | (simp; done) | (simp; omega)) _) | refine below_drewN ?_ _ | refine Below.drew ?_ | (refine below_thru (by assumption) ?_ (by first | omega | (simp; done) | (simp; omega))) | exact Below.refl _ _))).mono ?_; rintro e w1 ⟨rfl, hb⟩; obtain ⟨hc, hfz⟩ := bcell hb; have hz := hb.size; (try simp at hz); (try have hz0 : w.heap.size < w1.heap.size := by omega); (try have hz1 : w.heap.size + 1 < w1.heap.size := by omega); (try have hz2 : w.heap.size + 2 < w1.heap.size := by omega); (try have hz3 : w.heap.size + 3 < w1.heap.size := by omega); (try have hcA := fun o => hc w.heap.size o (by first | omega | (simp; omega))); (try have hcB := fun o => hc (w.heap.size + 1) o (by first | omega | (simp; omega)))) | (go_at_call 9; refine ( ho.out _ (by (repeat' first | (with_reducible exact Below.refl _ _) | (with_reducible refine Below.setCell ?_ (by first | omega | (simp; done) | (simp; omega)) _) | (with_reducible refine Below.alloc ?_ (by first | omega | (simp; done) | (simp; omega)) _) | refine below_drewN ?_ _ | refine Below.drew ?_ | (refine below_thru (by assumption) ?_ (by first | omega | (simp; done) | (simp; omega))) | exact Below.refl _ _))).mono ?_; rintro e w1 ⟨rfl, hb⟩; obtain ⟨hc, hfz⟩ := bcell hb; have hz := hb.size; (try simp at hz); (try have hz0 : w.heap.size < w1.heap.size := by omega); (try have hz1 : w.heap.size + 1 < w1.heap.size := by omega); (try have hz2 : w.heap.size + 2 < w1.heap.size := by omega); (try have hz3 : w.heap.size + 3 < w1.heap.size := by omega); (try have hcA := fun o => hc w.heap.size o (by first | omega | (simp; omega))); (try have hcB := fun o => hc (w.heap.size + 1) o (by first | omega | (simp; omega)))))
  refine bodyPost_ret (v := (Value.agg #[(Value.bool (o).opaq), (Value.int .i64 (o).id), (Value.string ⟨((o).scheme).toArray⟩), (Value.string ⟨(((o).host).name).toArray⟩), (Value.bool ((o).host).v4), (Value.int .u32 (((o).host).addr : Int)), (Value.int .i64 (o).port)])) (by simp only [results, Tryd.results33]; go_simp) rfl ⟨rfl, ?_⟩
  (repeat' first | (with_reducible exact Below.refl _ _) | (with_reducible refine Below.setCell ?_ (by first | omega | (simp; done) | (simp; omega)) _) | (with_reducible refine Below.alloc ?_ (by first | omega | (simp; done) | (simp; omega)) _) | refine below_drewN ?_ _ | refine Below.drew ?_ | (refine below_thru (by assumption) ?_ (by first | omega | (simp; done) | (simp; omega))) | exact Below.refl _ _)
theorem Blk.strs {W : World} {g n : Nat} {t : TypeId} {cs : Array Value} {L : List (List UInt8)} (h : Blk W g t cs) (hc : cs = (strs L).toArray) (hn : n = L.length) (hl : L.length ≤ maxLen) : Strs W W.heap.size (.slice (some ⟨g, 0, none⟩) n n) L := by
  subst hc hn
  refine ⟨_, L.length, rfl, Nat.le_refl _, hl, fun _ => ⟨g, 0, rfl, h.lt, fun j hj => ?_⟩⟩
  rw [h.cell]
  simp [Go.Proofs.YtplbkocokknnoaaDoor.strs, str, hj]
theorem Strs.none (w : World) : Strs w w.heap.size (.slice none 0 0) [] := ⟨_, 0, rfl, Nat.le_refl _, Nat.zero_le _, fun h => absurd h (Nat.lt_irrefl _)⟩
theorem Blk.origs1 {W : World} {g : Nat} {t : TypeId} {o : Gl.Origin} (h : Blk W g t #[(Value.bool (o).opaq), (Value.int .i64 (o).id), (Value.string ⟨((o).scheme).toArray⟩), (Value.string ⟨(((o).host).name).toArray⟩), (Value.bool ((o).host).v4), (Value.int .u32 (((o).host).addr : Int)), (Value.int .i64 (o).port)]) : Origs W (.slice (some ⟨g, 0, Option.none⟩) 1 1) [o] := by
  refine ⟨_, 1, rfl, Nat.le_refl _, by decide, fun _ => ⟨g, 0, rfl, h.lt, fun j hj i hi => ?_⟩⟩
  obtain rfl : j = 0 := by simp at hj; exact hj
  rw [show 0 + 0 * 7 + i = i by omega, h.cell]
  rfl
def oA : Gl.Origin := { scheme := [104, 116, 116, 112, 115], host := { name := [97] }, port := 443 }
def oXB : Gl.Origin := { scheme := [104, 116, 116, 112, 115], host := { name := [120, 46, 98] }, port := 443 }
def oB : Gl.Origin := { scheme := [104, 116, 116, 112, 115], host := { name := [98] }, port := 443 }
def oHA : Gl.Origin := { scheme := [104, 116, 116, 112], host := { name := [97] }, port := 80 }
def tA : List UInt8 := [104, 116, 116, 112, 115, 58, 47, 47, 97, 47]
def tXB : List UInt8 := [104, 116, 116, 112, 115, 58, 47, 47, 120, 46, 98, 47]
def tB : List UInt8 := [104, 116, 116, 112, 115, 58, 47, 47, 98, 47]
def tHA : List UInt8 := [104, 116, 116, 112, 58, 47, 47, 97, 47]
set_option maxRecDepth 100000 in
theorem of_A : Gl.originOf (Gl.parse tA).1 0 = oA := by decide +kernel
set_option maxRecDepth 100000 in
theorem of_XB : Gl.originOf (Gl.parse tXB).1 0 = oXB := by decide +kernel
set_option maxRecDepth 100000 in
theorem of_B : Gl.originOf (Gl.parse tB).1 0 = oB := by decide +kernel
set_option maxRecDepth 100000 in
theorem of_HA : Gl.originOf (Gl.parse tHA).1 0 = oHA := by decide +kernel
set_option maxRecDepth 100000 in
theorem src_one : Gl.sourceOf [104, 116, 116, 112, 58, 47, 47, 42, 46, 66, 58, 56, 48] = { kind := 4, scheme := [104, 116, 116, 112], host := [42, 46, 98], port := 80 } := by decide +kernel
set_option maxRecDepth 100000 in
theorem any_1 : Gl.anyS [[39, 110, 111, 110, 101, 39], [42, 46, 98]] oXB oA = true := by decide +kernel
set_option maxRecDepth 100000 in
theorem any_2 : Gl.anyS [[42, 46, 98]] oB oA = false := by decide +kernel
set_option maxRecDepth 100000 in
theorem match_1 : Gl.matchS { kind := 1 } oA oA = true := by decide +kernel
set_option maxRecDepth 100000 in
theorem match_2 : Gl.matchS { kind := 1 } oHA oA = false := by decide +kernel
theorem frames_1 : Gl.framesS false [] oA [oA] = true := rfl
theorem frames_2 : Gl.framesS true [] oA [oA] = false := rfl
set_option maxHeartbeats 4000000 in
set_option maxRecDepth 100000 in
theorem awake11 (w : World) (hE : Env w) : Calls Tryd.prog 15 #[] w (Ret w (.bool true)) := by
  have hA := fun W (hW : Below w.heap.size w W) => law11_of tA W (hE.below hW) (by decide)
  have hs := fun W (hW : Below w.heap.size w W) => csp_parse [104, 116, 116, 112, 58, 47, 47, 42, 46, 66, 58, 56, 48] W (hE.below hW) (by decide)
  have hX := fun W (hW : Below w.heap.size w W) => law11_of tXB W (hE.below hW) (by decide)
  have hB := fun W (hW : Below w.heap.size w W) => law11_of tB W (hE.below hW) (by decide)
  have hH := fun W (hW : Below w.heap.size w W) => law11_of tHA W (hE.below hW) (by decide)
  rw [of_A] at hA
  rw [src_one] at hs
  rw [of_XB] at hX
  rw [of_B] at hB
  rw [of_HA] at hH
  unfold oA tA at hA
  unfold oXB tXB at hX
  unfold oB tB at hB
  unfold oHA tHA at hH
  replace hA := Lib.hid hA
  replace hs := Lib.hid hs
  replace hX := Lib.hid hX
  replace hB := Lib.hid hB
  replace hH := Lib.hid hH
  go_enter Tryd.func15, Tryd.ntmps15
  go_upto_region 1 with fail
  go_cut [1] from 7 (fun m w' => ∃ gA, m = .pointer (some ⟨gA, 0, none⟩) ∧ w.heap.size ≤ gA ∧ Below w.heap.size w w' ∧ Blk w' gA 35 #[.bool false, .int .i64 0, .string ⟨#[104, 116, 116, 112, 115]⟩, .string ⟨#[97]⟩, .bool false, .int .u32 0, .int .i64 443])
  case first =>
    go_wp2_with (go_at_call 33; refine ( hA.out _ (by (repeat' first | (with_reducible exact Below.refl _ _) | (with_reducible refine Below.setCell ?_ (by first | omega | (simp; done) | (simp; omega)) _) | (with_reducible refine Below.alloc ?_ (by first | omega | (simp; done) | (simp; omega)) _) | refine below_drewN ?_ _ | refine Below.drew ?_ | (refine below_thru (by assumption) ?_ (by first | omega | (simp; done) | (simp; omega))) | exact Below.refl _ _))).mono ?_; rintro e w1 ⟨rfl, hb⟩; obtain ⟨hc, hfz⟩ := bcell hb; have hz := hb.size; (try simp at hz); (try have hz0 : w.heap.size < w1.heap.size := by omega); (try have hz1 : w.heap.size + 1 < w1.heap.size := by omega); (try have hz2 : w.heap.size + 2 < w1.heap.size := by omega); (try have hz3 : w.heap.size + 3 < w1.heap.size := by omega); (try have hcA := fun o => hc w.heap.size o (by first | omega | (simp; omega))); (try have hcB := fun o => hc (w.heap.size + 1) o (by first | omega | (simp; omega))); (try have hcGg := fun o => hc g o (by first | omega | (simp; omega))); (try have hfGg := fun o => hfz g o (by first | omega | (simp; omega))); (try have hzGg : g < w1.heap.size := by omega); (try have hcGgA := fun o => hc gA o (by first | omega | (simp; omega))); (try have hfGgA := fun o => hfz gA o (by first | omega | (simp; omega))); (try have hzGgA : gA < w1.heap.size := by omega))
    go_meet
    case rel => exact ⟨_, rfl, by first | omega | (simp; omega), by (repeat' first | (with_reducible exact Below.refl _ _) | (with_reducible refine Below.setCell ?_ (by first | omega | (simp; done) | (simp; omega)) _) | (with_reducible refine Below.alloc ?_ (by first | omega | (simp; done) | (simp; omega)) _) | refine below_drewN ?_ _ | refine Below.drew ?_ | (refine below_thru (by assumption) ?_ (by first | omega | (simp; done) | (simp; omega))) | exact Below.refl _ _), by (repeat' first | (with_reducible assumption) | (with_reducible exact Blk.new _ _ _) | (with_reducible refine Blk.drew_ ?_) | (with_reducible refine Blk.alloc ?_ _) | (refine Blk.below ?_ (by assumption) (by first | omega | (simp; done) | (simp; omega))))⟩
  case rest =>
    obtain ⟨gA, rfl, hgA, hw, hBA⟩ := hcut
    have hwz := hw.size
    have hgl := hBA.lt
    go_upto_region 4 with (go_at_call 34; refine ( hs.out _ (by (repeat' first | (with_reducible exact Below.refl _ _) | (with_reducible refine Below.setCell ?_ (by first | omega | (simp; done) | (simp; omega)) _) | (with_reducible refine Below.alloc ?_ (by first | omega | (simp; done) | (simp; omega)) _) | refine below_drewN ?_ _ | refine Below.drew ?_ | (refine below_thru (by assumption) ?_ (by first | omega | (simp; done) | (simp; omega))) | exact Below.refl _ _))).mono ?_; rintro e w1 ⟨rfl, hb⟩; obtain ⟨hc, hfz⟩ := bcell hb; have hz := hb.size; (try simp at hz); (try have hz0 : w.heap.size < w1.heap.size := by omega); (try have hz1 : w.heap.size + 1 < w1.heap.size := by omega); (try have hz2 : w.heap.size + 2 < w1.heap.size := by omega); (try have hz3 : w.heap.size + 3 < w1.heap.size := by omega); (try have hcA := fun o => hc w.heap.size o (by first | omega | (simp; omega))); (try have hcB := fun o => hc (w.heap.size + 1) o (by first | omega | (simp; omega))); (try have hcGg := fun o => hc g o (by first | omega | (simp; omega))); (try have hfGg := fun o => hfz g o (by first | omega | (simp; omega))); (try have hzGg : g < w1.heap.size := by omega); (try have hcGgA := fun o => hc gA o (by first | omega | (simp; omega))); (try have hfGgA := fun o => hfz gA o (by first | omega | (simp; omega))); (try have hzGgA : gA < w1.heap.size := by omega))
    generalize hW4 : World.alloc _ _ = W4
    have hw4 : Below w.heap.size w W4 := by rw [← hW4]; (repeat' first | (with_reducible exact Below.refl _ _) | (with_reducible refine Below.setCell ?_ (by first | omega | (simp; done) | (simp; omega)) _) | (with_reducible refine Below.alloc ?_ (by first | omega | (simp; done) | (simp; omega)) _) | refine below_drewN ?_ _ | refine Below.drew ?_ | (refine below_thru (by assumption) ?_ (by first | omega | (simp; done) | (simp; omega))) | exact Below.refl _ _)
    have hB4 : Blk W4 gA 35 #[.bool false, .int .i64 0, .string ⟨#[104, 116, 116, 112, 115]⟩, .string ⟨#[97]⟩, .bool false, .int .u32 0, .int .i64 443] := by rw [← hW4]; (repeat' first | (with_reducible assumption) | (with_reducible exact Blk.new _ _ _) | (with_reducible refine Blk.drew_ ?_) | (with_reducible refine Blk.alloc ?_ _) | (refine Blk.below ?_ (by assumption) (by first | omega | (simp; done) | (simp; omega))))
    clear hW4 hBA hw hwz hgl
    have hw := hw4
    have hBA := hB4
    clear hw4 hB4
    go_upto_region 4 with fail
    go_cut [4] from 7 (fun f w' => f = .bool true ∧ Below w.heap.size w w' ∧ Blk w' gA 35 #[.bool false, .int .i64 0, .string ⟨#[104, 116, 116, 112, 115]⟩, .string ⟨#[97]⟩, .bool false, .int .u32 0, .int .i64 443])
    case first =>
      have hwz := hw.size
      have hAl := hBA.lt
      have hAc := hBA.cell
      have hAf := hBA.frozen
      have a1 := fun g W (hW : Below w.heap.size w W) (hv : Blk W g 9 #[.string ⟨#[39, 110, 111, 110, 101, 39]⟩, .string ⟨#[42, 46, 98]⟩]) => csp_any (.slice (some ⟨g, 0, none⟩) 2 2) [[39, 110, 111, 110, 101, 39], [42, 46, 98]] oXB oA W (hE.below hW) (hv.strs rfl rfl (by decide)) (by decide) (by decide) (by decide) (by decide)
      have a2 := fun g W (hW : Below w.heap.size w W) (hv : Blk W g 9 #[.string ⟨#[42, 46, 98]⟩]) => csp_any (.slice (some ⟨g, 0, none⟩) 1 1) [[42, 46, 98]] oB oA W (hE.below hW) (hv.strs rfl rfl (by decide)) (by decide) (by decide) (by decide) (by decide)
      rw [any_1] at a1
      rw [any_2] at a2
      unfold oXB oA at a1
      unfold oB oA at a2
      replace a1 := Lib.hid a1
      replace a2 := Lib.hid a2
      go_region_held3 (fun W => Below w.heap.size w W ∧ w.heap.size ≤ W.heap.size ∧ gA < W.heap.size ∧ (∀ n0, W.cell? ⟨gA, n0, none⟩ = (#[.bool false, .int .i64 0, .string ⟨#[104, 116, 116, 112, 115]⟩, .string ⟨#[97]⟩, .bool false, .int .u32 0, .int .i64 443] : Array Value)[n0]?)) ((refine ⟨by (repeat' first | (with_reducible exact Below.refl _ _) | (with_reducible refine Below.setCell ?_ (by first | omega | (simp; done) | (simp; omega)) _) | (with_reducible refine Below.alloc ?_ (by first | omega | (simp; done) | (simp; omega)) _) | refine below_drewN ?_ _ | refine Below.drew ?_ | (refine below_thru (by assumption) ?_ (by first | omega | (simp; done) | (simp; omega))) | exact Below.refl _ _), by first | omega | (simp; omega), by first | omega | (simp; omega), ?_⟩; exact Blk.cell (t := 35) (by (repeat' first | (with_reducible assumption) | (with_reducible exact Blk.new _ _ _) | (with_reducible refine Blk.drew_ ?_) | (with_reducible refine Blk.alloc ?_ _) | (refine Blk.below ?_ (by assumption) (by first | omega | (simp; done) | (simp; omega))))))) (first | (go_at_call 33; refine ( hX.out _ (by (repeat' first | (with_reducible exact Below.refl _ _) | (with_reducible refine Below.setCell ?_ (by first | omega | (simp; done) | (simp; omega)) _) | (with_reducible refine Below.alloc ?_ (by first | omega | (simp; done) | (simp; omega)) _) | refine below_drewN ?_ _ | refine Below.drew ?_ | (refine below_thru (by assumption) ?_ (by first | omega | (simp; done) | (simp; omega))) | exact Below.refl _ _))).mono ?_; rintro e w1 ⟨rfl, hb⟩; obtain ⟨hc, hfz⟩ := bcell hb; have hz := hb.size; (try simp at hz); (try have hz0 : w.heap.size < w1.heap.size := by omega); (try have hz1 : w.heap.size + 1 < w1.heap.size := by omega); (try have hz2 : w.heap.size + 2 < w1.heap.size := by omega); (try have hz3 : w.heap.size + 3 < w1.heap.size := by omega); (try have hcA := fun o => hc w.heap.size o (by first | omega | (simp; omega))); (try have hcB := fun o => hc (w.heap.size + 1) o (by first | omega | (simp; omega))); (try have hcGg := fun o => hc g o (by first | omega | (simp; omega))); (try have hfGg := fun o => hfz g o (by first | omega | (simp; omega))); (try have hzGg : g < w1.heap.size := by omega); (try have hcGgA := fun o => hc gA o (by first | omega | (simp; omega))); (try have hfGgA := fun o => hfz gA o (by first | omega | (simp; omega))); (try have hzGgA : gA < w1.heap.size := by omega)) | (go_at_call 33; refine ( hB.out _ (by (repeat' first | (with_reducible exact Below.refl _ _) | (with_reducible refine Below.setCell ?_ (by first | omega | (simp; done) | (simp; omega)) _) | (with_reducible refine Below.alloc ?_ (by first | omega | (simp; done) | (simp; omega)) _) | refine below_drewN ?_ _ | refine Below.drew ?_ | (refine below_thru (by assumption) ?_ (by first | omega | (simp; done) | (simp; omega))) | exact Below.refl _ _))).mono ?_; rintro e w1 ⟨rfl, hb⟩; obtain ⟨hc, hfz⟩ := bcell hb; have hz := hb.size; (try simp at hz); (try have hz0 : w.heap.size < w1.heap.size := by omega); (try have hz1 : w.heap.size + 1 < w1.heap.size := by omega); (try have hz2 : w.heap.size + 2 < w1.heap.size := by omega); (try have hz3 : w.heap.size + 3 < w1.heap.size := by omega); (try have hcA := fun o => hc w.heap.size o (by first | omega | (simp; omega))); (try have hcB := fun o => hc (w.heap.size + 1) o (by first | omega | (simp; omega))); (try have hcGg := fun o => hc g o (by first | omega | (simp; omega))); (try have hfGg := fun o => hfz g o (by first | omega | (simp; omega))); (try have hzGg : g < w1.heap.size := by omega); (try have hcGgA := fun o => hc gA o (by first | omega | (simp; omega))); (try have hfGgA := fun o => hfz gA o (by first | omega | (simp; omega))); (try have hzGgA : gA < w1.heap.size := by omega)) | (go_at_call 35; refine ( a1.out _ _ (by (repeat' first | (with_reducible exact Below.refl _ _) | (with_reducible refine Below.setCell ?_ (by first | omega | (simp; done) | (simp; omega)) _) | (with_reducible refine Below.alloc ?_ (by first | omega | (simp; done) | (simp; omega)) _) | refine below_drewN ?_ _ | refine Below.drew ?_ | (refine below_thru (by assumption) ?_ (by first | omega | (simp; done) | (simp; omega))) | exact Below.refl _ _)) (by (repeat' first | (with_reducible assumption) | (with_reducible exact Blk.new _ _ _) | (with_reducible refine Blk.drew_ ?_) | (with_reducible refine Blk.alloc ?_ _) | (refine Blk.below ?_ (by assumption) (by first | omega | (simp; done) | (simp; omega)))))).mono ?_; rintro e w1 ⟨rfl, hb⟩; obtain ⟨hc, hfz⟩ := bcell hb; have hz := hb.size; (try simp at hz); (try have hz0 : w.heap.size < w1.heap.size := by omega); (try have hz1 : w.heap.size + 1 < w1.heap.size := by omega); (try have hz2 : w.heap.size + 2 < w1.heap.size := by omega); (try have hz3 : w.heap.size + 3 < w1.heap.size := by omega); (try have hcA := fun o => hc w.heap.size o (by first | omega | (simp; omega))); (try have hcB := fun o => hc (w.heap.size + 1) o (by first | omega | (simp; omega))); (try have hcGg := fun o => hc g o (by first | omega | (simp; omega))); (try have hfGg := fun o => hfz g o (by first | omega | (simp; omega))); (try have hzGg : g < w1.heap.size := by omega); (try have hcGgA := fun o => hc gA o (by first | omega | (simp; omega))); (try have hfGgA := fun o => hfz gA o (by first | omega | (simp; omega))); (try have hzGgA : gA < w1.heap.size := by omega)) | (go_at_call 35; refine ( a2.out _ _ (by (repeat' first | (with_reducible exact Below.refl _ _) | (with_reducible refine Below.setCell ?_ (by first | omega | (simp; done) | (simp; omega)) _) | (with_reducible refine Below.alloc ?_ (by first | omega | (simp; done) | (simp; omega)) _) | refine below_drewN ?_ _ | refine Below.drew ?_ | (refine below_thru (by assumption) ?_ (by first | omega | (simp; done) | (simp; omega))) | exact Below.refl _ _)) (by (repeat' first | (with_reducible assumption) | (with_reducible exact Blk.new _ _ _) | (with_reducible refine Blk.drew_ ?_) | (with_reducible refine Blk.alloc ?_ _) | (refine Blk.below ?_ (by assumption) (by first | omega | (simp; done) | (simp; omega)))))).mono ?_; rintro e w1 ⟨rfl, hb⟩; obtain ⟨hc, hfz⟩ := bcell hb; have hz := hb.size; (try simp at hz); (try have hz0 : w.heap.size < w1.heap.size := by omega); (try have hz1 : w.heap.size + 1 < w1.heap.size := by omega); (try have hz2 : w.heap.size + 2 < w1.heap.size := by omega); (try have hz3 : w.heap.size + 3 < w1.heap.size := by omega); (try have hcA := fun o => hc w.heap.size o (by first | omega | (simp; omega))); (try have hcB := fun o => hc (w.heap.size + 1) o (by first | omega | (simp; omega))); (try have hcGg := fun o => hc g o (by first | omega | (simp; omega))); (try have hfGg := fun o => hfz g o (by first | omega | (simp; omega))); (try have hzGg : g < w1.heap.size := by omega); (try have hcGgA := fun o => hc gA o (by first | omega | (simp; omega))); (try have hfGgA := fun o => hfz gA o (by first | omega | (simp; omega))); (try have hzGgA : gA < w1.heap.size := by omega)))
      all_goals (try go_wp2_with fail)
      all_goals go_meet
      all_goals exact ⟨rfl, by (repeat' first | (with_reducible exact Below.refl _ _) | (with_reducible refine Below.setCell ?_ (by first | omega | (simp; done) | (simp; omega)) _) | (with_reducible refine Below.alloc ?_ (by first | omega | (simp; done) | (simp; omega)) _) | refine below_drewN ?_ _ | refine Below.drew ?_ | (refine below_thru (by assumption) ?_ (by first | omega | (simp; done) | (simp; omega))) | exact Below.refl _ _), by (repeat' first | (with_reducible assumption) | (with_reducible exact Blk.new _ _ _) | (with_reducible refine Blk.drew_ ?_) | (with_reducible refine Blk.alloc ?_ _) | (refine Blk.below ?_ (by assumption) (by first | omega | (simp; done) | (simp; omega))))⟩
    case rest =>
      clear hw hBA
      obtain ⟨rfl, hw, hBA⟩ := hcut
      go_upto_region 5 with fail
      go_cut [5] from 7 (fun f w' => f = .bool true ∧ Below w.heap.size w w' ∧ Blk w' gA 35 #[.bool false, .int .i64 0, .string ⟨#[104, 116, 116, 112, 115]⟩, .string ⟨#[97]⟩, .bool false, .int .u32 0, .int .i64 443])
      case first =>
        have hwz := hw.size
        have hAl := hBA.lt
        have hAc := hBA.cell
        have hAf := hBA.frozen
        have a1 : ∀ W, Below w.heap.size w W → Calls Tryd.prog 36 #[.agg #[.int .i64 1, .string ⟨#[]⟩, .string ⟨#[]⟩, .int .i64 0], .agg #[.bool false, .int .i64 0, .string ⟨#[104, 116, 116, 112, 115]⟩, .string ⟨#[97]⟩, .bool false, .int .u32 0, .int .i64 443], .agg #[.bool false, .int .i64 0, .string ⟨#[104, 116, 116, 112, 115]⟩, .string ⟨#[97]⟩, .bool false, .int .u32 0, .int .i64 443]] W (Ret W (.bool true)) := fun W hW => by
          have := csp_match { kind := 1 } oA oA W (hE.below hW) (by decide) (by decide)
          rw [match_1] at this
          exact this
        have a2 : ∀ W, Below w.heap.size w W → Calls Tryd.prog 36 #[.agg #[.int .i64 1, .string ⟨#[]⟩, .string ⟨#[]⟩, .int .i64 0], .agg #[.bool false, .int .i64 0, .string ⟨#[104, 116, 116, 112]⟩, .string ⟨#[97]⟩, .bool false, .int .u32 0, .int .i64 80], .agg #[.bool false, .int .i64 0, .string ⟨#[104, 116, 116, 112, 115]⟩, .string ⟨#[97]⟩, .bool false, .int .u32 0, .int .i64 443]] W (Ret W (.bool false)) := fun W hW => by
          have := csp_match { kind := 1 } oHA oA W (hE.below hW) (by decide) (by decide)
          rw [match_2] at this
          exact this
        replace a1 := Lib.hid a1
        replace a2 := Lib.hid a2
        go_region_held3 (fun W => Below w.heap.size w W ∧ w.heap.size ≤ W.heap.size ∧ gA < W.heap.size ∧ (∀ n0, W.cell? ⟨gA, n0, none⟩ = (#[.bool false, .int .i64 0, .string ⟨#[104, 116, 116, 112, 115]⟩, .string ⟨#[97]⟩, .bool false, .int .u32 0, .int .i64 443] : Array Value)[n0]?)) ((refine ⟨by (repeat' first | (with_reducible exact Below.refl _ _) | (with_reducible refine Below.setCell ?_ (by first | omega | (simp; done) | (simp; omega)) _) | (with_reducible refine Below.alloc ?_ (by first | omega | (simp; done) | (simp; omega)) _) | refine below_drewN ?_ _ | refine Below.drew ?_ | (refine below_thru (by assumption) ?_ (by first | omega | (simp; done) | (simp; omega))) | exact Below.refl _ _), by first | omega | (simp; omega), by first | omega | (simp; omega), ?_⟩; exact Blk.cell (t := 35) (by (repeat' first | (with_reducible assumption) | (with_reducible exact Blk.new _ _ _) | (with_reducible refine Blk.drew_ ?_) | (with_reducible refine Blk.alloc ?_ _) | (refine Blk.below ?_ (by assumption) (by first | omega | (simp; done) | (simp; omega))))))) (first | (go_at_call 33; refine ( hH.out _ (by (repeat' first | (with_reducible exact Below.refl _ _) | (with_reducible refine Below.setCell ?_ (by first | omega | (simp; done) | (simp; omega)) _) | (with_reducible refine Below.alloc ?_ (by first | omega | (simp; done) | (simp; omega)) _) | refine below_drewN ?_ _ | refine Below.drew ?_ | (refine below_thru (by assumption) ?_ (by first | omega | (simp; done) | (simp; omega))) | exact Below.refl _ _))).mono ?_; rintro e w1 ⟨rfl, hb⟩; obtain ⟨hc, hfz⟩ := bcell hb; have hz := hb.size; (try simp at hz); (try have hz0 : w.heap.size < w1.heap.size := by omega); (try have hz1 : w.heap.size + 1 < w1.heap.size := by omega); (try have hz2 : w.heap.size + 2 < w1.heap.size := by omega); (try have hz3 : w.heap.size + 3 < w1.heap.size := by omega); (try have hcA := fun o => hc w.heap.size o (by first | omega | (simp; omega))); (try have hcB := fun o => hc (w.heap.size + 1) o (by first | omega | (simp; omega))); (try have hcGg := fun o => hc g o (by first | omega | (simp; omega))); (try have hfGg := fun o => hfz g o (by first | omega | (simp; omega))); (try have hzGg : g < w1.heap.size := by omega); (try have hcGgA := fun o => hc gA o (by first | omega | (simp; omega))); (try have hfGgA := fun o => hfz gA o (by first | omega | (simp; omega))); (try have hzGgA : gA < w1.heap.size := by omega)) | (go_at_call 36; refine ( a1.out _ (by (repeat' first | (with_reducible exact Below.refl _ _) | (with_reducible refine Below.setCell ?_ (by first | omega | (simp; done) | (simp; omega)) _) | (with_reducible refine Below.alloc ?_ (by first | omega | (simp; done) | (simp; omega)) _) | refine below_drewN ?_ _ | refine Below.drew ?_ | (refine below_thru (by assumption) ?_ (by first | omega | (simp; done) | (simp; omega))) | exact Below.refl _ _))).mono ?_; rintro e w1 ⟨rfl, hb⟩; obtain ⟨hc, hfz⟩ := bcell hb; have hz := hb.size; (try simp at hz); (try have hz0 : w.heap.size < w1.heap.size := by omega); (try have hz1 : w.heap.size + 1 < w1.heap.size := by omega); (try have hz2 : w.heap.size + 2 < w1.heap.size := by omega); (try have hz3 : w.heap.size + 3 < w1.heap.size := by omega); (try have hcA := fun o => hc w.heap.size o (by first | omega | (simp; omega))); (try have hcB := fun o => hc (w.heap.size + 1) o (by first | omega | (simp; omega))); (try have hcGg := fun o => hc g o (by first | omega | (simp; omega))); (try have hfGg := fun o => hfz g o (by first | omega | (simp; omega))); (try have hzGg : g < w1.heap.size := by omega); (try have hcGgA := fun o => hc gA o (by first | omega | (simp; omega))); (try have hfGgA := fun o => hfz gA o (by first | omega | (simp; omega))); (try have hzGgA : gA < w1.heap.size := by omega)) | (go_at_call 36; refine ( a2.out _ (by (repeat' first | (with_reducible exact Below.refl _ _) | (with_reducible refine Below.setCell ?_ (by first | omega | (simp; done) | (simp; omega)) _) | (with_reducible refine Below.alloc ?_ (by first | omega | (simp; done) | (simp; omega)) _) | refine below_drewN ?_ _ | refine Below.drew ?_ | (refine below_thru (by assumption) ?_ (by first | omega | (simp; done) | (simp; omega))) | exact Below.refl _ _))).mono ?_; rintro e w1 ⟨rfl, hb⟩; obtain ⟨hc, hfz⟩ := bcell hb; have hz := hb.size; (try simp at hz); (try have hz0 : w.heap.size < w1.heap.size := by omega); (try have hz1 : w.heap.size + 1 < w1.heap.size := by omega); (try have hz2 : w.heap.size + 2 < w1.heap.size := by omega); (try have hz3 : w.heap.size + 3 < w1.heap.size := by omega); (try have hcA := fun o => hc w.heap.size o (by first | omega | (simp; omega))); (try have hcB := fun o => hc (w.heap.size + 1) o (by first | omega | (simp; omega))); (try have hcGg := fun o => hc g o (by first | omega | (simp; omega))); (try have hfGg := fun o => hfz g o (by first | omega | (simp; omega))); (try have hzGg : g < w1.heap.size := by omega); (try have hcGgA := fun o => hc gA o (by first | omega | (simp; omega))); (try have hfGgA := fun o => hfz gA o (by first | omega | (simp; omega))); (try have hzGgA : gA < w1.heap.size := by omega)))
        all_goals (try go_wp2_with fail)
        all_goals go_meet
        all_goals exact ⟨rfl, by (repeat' first | (with_reducible exact Below.refl _ _) | (with_reducible refine Below.setCell ?_ (by first | omega | (simp; done) | (simp; omega)) _) | (with_reducible refine Below.alloc ?_ (by first | omega | (simp; done) | (simp; omega)) _) | refine below_drewN ?_ _ | refine Below.drew ?_ | (refine below_thru (by assumption) ?_ (by first | omega | (simp; done) | (simp; omega))) | exact Below.refl _ _), by (repeat' first | (with_reducible assumption) | (with_reducible exact Blk.new _ _ _) | (with_reducible refine Blk.drew_ ?_) | (with_reducible refine Blk.alloc ?_ _) | (refine Blk.below ?_ (by assumption) (by first | omega | (simp; done) | (simp; omega))))⟩
      case rest =>
        clear hw hBA
        obtain ⟨rfl, hw, hBA⟩ := hcut
        go_upto_region 6 with fail
        go_cut [6] from 7 (fun f w' => f = .bool true ∧ Below w.heap.size w w' ∧ Blk w' gA 35 #[.bool false, .int .i64 0, .string ⟨#[104, 116, 116, 112, 115]⟩, .string ⟨#[97]⟩, .bool false, .int .u32 0, .int .i64 443])
        case first =>
          have hwz := hw.size
          have hAl := hBA.lt
          have hAc := hBA.cell
          have hAf := hBA.frozen
          have a1 : ∀ g W, Below w.heap.size w W → Blk W g 35 #[.bool false, .int .i64 0, .string ⟨#[104, 116, 116, 112, 115]⟩, .string ⟨#[97]⟩, .bool false, .int .u32 0, .int .i64 443] → Calls Tryd.prog 18 #[.agg #[.bool false, .slice none 0 0, .bool false, .slice none 0 0], .agg #[.bool false, .int .i64 0, .string ⟨#[104, 116, 116, 112, 115]⟩, .string ⟨#[97]⟩, .bool false, .int .u32 0, .int .i64 443], .slice (some ⟨g, 0, none⟩) 1 1] W (Ret W (.bool true)) := fun g W hW hg =>
            csp_frames false false (.slice none 0 0) (.slice none 0 0) (.slice (some ⟨g, 0, none⟩) 1 1) [] [oA] oA W (hE.below hW) (Strs.none W) (by decide) (by intro s h; cases h) (Blk.origs1 (o := oA) hg) (by decide) (by intro a h; simp at h; subst h; exact ⟨by decide, by decide⟩)
          have a2 : ∀ g W, Below w.heap.size w W → Blk W g 35 #[.bool false, .int .i64 0, .string ⟨#[104, 116, 116, 112, 115]⟩, .string ⟨#[97]⟩, .bool false, .int .u32 0, .int .i64 443] → Calls Tryd.prog 18 #[.agg #[.bool true, .slice none 0 0, .bool false, .slice none 0 0], .agg #[.bool false, .int .i64 0, .string ⟨#[104, 116, 116, 112, 115]⟩, .string ⟨#[97]⟩, .bool false, .int .u32 0, .int .i64 443], .slice (some ⟨g, 0, none⟩) 1 1] W (Ret W (.bool false)) := fun g W hW hg =>
            csp_frames true false (.slice none 0 0) (.slice none 0 0) (.slice (some ⟨g, 0, none⟩) 1 1) [] [oA] oA W (hE.below hW) (Strs.none W) (by decide) (by intro s h; cases h) (Blk.origs1 (o := oA) hg) (by decide) (by intro a h; simp at h; subst h; exact ⟨by decide, by decide⟩)
          replace a1 := Lib.hid a1
          replace a2 := Lib.hid a2
          go_wp2_with (first | (go_at_call 18; refine ( a1.out _ _ (by (repeat' first | (with_reducible exact Below.refl _ _) | (with_reducible refine Below.setCell ?_ (by first | omega | (simp; done) | (simp; omega)) _) | (with_reducible refine Below.alloc ?_ (by first | omega | (simp; done) | (simp; omega)) _) | refine below_drewN ?_ _ | refine Below.drew ?_ | (refine below_thru (by assumption) ?_ (by first | omega | (simp; done) | (simp; omega))) | exact Below.refl _ _)) (by (repeat' first | (with_reducible assumption) | (with_reducible exact Blk.new _ _ _) | (with_reducible refine Blk.drew_ ?_) | (with_reducible refine Blk.alloc ?_ _) | (refine Blk.below ?_ (by assumption) (by first | omega | (simp; done) | (simp; omega)))))).mono ?_; rintro e w1 ⟨rfl, hb⟩; obtain ⟨hc, hfz⟩ := bcell hb; have hz := hb.size; (try simp at hz); (try have hz0 : w.heap.size < w1.heap.size := by omega); (try have hz1 : w.heap.size + 1 < w1.heap.size := by omega); (try have hz2 : w.heap.size + 2 < w1.heap.size := by omega); (try have hz3 : w.heap.size + 3 < w1.heap.size := by omega); (try have hcA := fun o => hc w.heap.size o (by first | omega | (simp; omega))); (try have hcB := fun o => hc (w.heap.size + 1) o (by first | omega | (simp; omega))); (try have hcGg := fun o => hc g o (by first | omega | (simp; omega))); (try have hfGg := fun o => hfz g o (by first | omega | (simp; omega))); (try have hzGg : g < w1.heap.size := by omega); (try have hcGgA := fun o => hc gA o (by first | omega | (simp; omega))); (try have hfGgA := fun o => hfz gA o (by first | omega | (simp; omega))); (try have hzGgA : gA < w1.heap.size := by omega)) | (go_at_call 18; refine ( a2.out _ _ (by (repeat' first | (with_reducible exact Below.refl _ _) | (with_reducible refine Below.setCell ?_ (by first | omega | (simp; done) | (simp; omega)) _) | (with_reducible refine Below.alloc ?_ (by first | omega | (simp; done) | (simp; omega)) _) | refine below_drewN ?_ _ | refine Below.drew ?_ | (refine below_thru (by assumption) ?_ (by first | omega | (simp; done) | (simp; omega))) | exact Below.refl _ _)) (by (repeat' first | (with_reducible assumption) | (with_reducible exact Blk.new _ _ _) | (with_reducible refine Blk.drew_ ?_) | (with_reducible refine Blk.alloc ?_ _) | (refine Blk.below ?_ (by assumption) (by first | omega | (simp; done) | (simp; omega)))))).mono ?_; rintro e w1 ⟨rfl, hb⟩; obtain ⟨hc, hfz⟩ := bcell hb; have hz := hb.size; (try simp at hz); (try have hz0 : w.heap.size < w1.heap.size := by omega); (try have hz1 : w.heap.size + 1 < w1.heap.size := by omega); (try have hz2 : w.heap.size + 2 < w1.heap.size := by omega); (try have hz3 : w.heap.size + 3 < w1.heap.size := by omega); (try have hcA := fun o => hc w.heap.size o (by first | omega | (simp; omega))); (try have hcB := fun o => hc (w.heap.size + 1) o (by first | omega | (simp; omega))); (try have hcGg := fun o => hc g o (by first | omega | (simp; omega))); (try have hfGg := fun o => hfz g o (by first | omega | (simp; omega))); (try have hzGg : g < w1.heap.size := by omega); (try have hcGgA := fun o => hc gA o (by first | omega | (simp; omega))); (try have hfGgA := fun o => hfz gA o (by first | omega | (simp; omega))); (try have hzGgA : gA < w1.heap.size := by omega)))
          all_goals (try go_wp2_with fail)
          all_goals go_meet
          all_goals exact ⟨rfl, by (repeat' first | (with_reducible exact Below.refl _ _) | (with_reducible refine Below.setCell ?_ (by first | omega | (simp; done) | (simp; omega)) _) | (with_reducible refine Below.alloc ?_ (by first | omega | (simp; done) | (simp; omega)) _) | refine below_drewN ?_ _ | refine Below.drew ?_ | (refine below_thru (by assumption) ?_ (by first | omega | (simp; done) | (simp; omega))) | exact Below.refl _ _), by (repeat' first | (with_reducible assumption) | (with_reducible exact Blk.new _ _ _) | (with_reducible refine Blk.drew_ ?_) | (with_reducible refine Blk.alloc ?_ _) | (refine Blk.below ?_ (by assumption) (by first | omega | (simp; done) | (simp; omega))))⟩
        case rest =>
          clear hw hBA
          obtain ⟨rfl, hw, hBA⟩ := hcut
          clear hBA
          go_wp2_with fail
          go_ret
          exact ⟨rfl, by (repeat' first | (with_reducible exact Below.refl _ _) | (with_reducible refine Below.setCell ?_ (by first | omega | (simp; done) | (simp; omega)) _) | (with_reducible refine Below.alloc ?_ (by first | omega | (simp; done) | (simp; omega)) _) | refine below_drewN ?_ _ | refine Below.drew ?_ | (refine below_thru (by assumption) ?_ (by first | omega | (simp; done) | (simp; omega))) | exact Below.refl _ _)⟩
end Go.Proofs.YtplbkocokknnoaaDoor
