/- glacislaw18: of, awake, EmbedNames. -/
import Derived.Test.YtkfoogmncokjnaaDoorPlain18
import Derived.Test.YtkfoogmncokjnaaDoorEmbed
import Derived.Test.YtkfoogmncokjnaaDoorFourB
import Derived.Test.YtkfoogmncokjnaaDoorGate
namespace Go.Proofs.YtkfoogmncokjnaaDoor
open Go.RowKit
attribute [local irreducible] Calls
set_option maxHeartbeats 1000000 in
theorem law18_of (s : List UInt8) (w : World) (hE : Env w) (hs : s.length ≤ 4294967280) : Calls Tryd.prog 11 #[(Value.string ⟨(s).toArray⟩)] w (Ret w ((Value.agg #[(Value.bool (Gl.originOf (Gl.parse s).1 0).opaq), (Value.int .i64 (Gl.originOf (Gl.parse s).1 0).id), (Value.string ⟨((Gl.originOf (Gl.parse s).1 0).scheme).toArray⟩), (Value.string ⟨(((Gl.originOf (Gl.parse s).1 0).host).name).toArray⟩), (Value.bool ((Gl.originOf (Gl.parse s).1 0).host).v4), (Value.int .u32 (((Gl.originOf (Gl.parse s).1 0).host).addr : Int)), (Value.int .i64 (Gl.originOf (Gl.parse s).1 0).port)]))) := by
  have hp := fun W (hW : Below w.heap.size w W) => urlp_parse s W hs (hE.below hW)
  have hr := parse_rest_len s
  generalize Gl.parse s = p at *
  obtain ⟨u, e⟩ := p
  simp only at hp hr ⊢
  have ho := fun W (hW : Below w.heap.size w W) => origin_of u 0 W (hE.below hW) (by omega)
  generalize Gl.originOf u 0 = o at *
  replace hp := Lib.hid hp
  replace ho := Lib.hid ho
  go_enter Tryd.func11, Tryd.ntmps11
  go_wp2_with (first | (go_at_call 17; refine ( hp.out _ (by (repeat' first | (with_reducible exact Below.refl _ _) | (with_reducible refine Below.setCell ?_ (by first | omega | (simp; done) | (simp; omega)) _) | (with_reducible refine Below.alloc ?_ (by first | omega | (simp; done) | (simp; omega)) _) | refine below_drewN ?_ _ | refine Below.drew ?_ | (refine below_thru (by assumption) ?_ (by first | omega | (simp; done) | (simp; omega))) | exact Below.refl _ _))).mono ?_; rintro e w1 ⟨rfl, hb⟩; obtain ⟨hc, hfz⟩ := bcell hb; have hz := hb.size; (try simp at hz); (try have hz0 : w.heap.size < w1.heap.size := by omega); (try have hz1 : w.heap.size + 1 < w1.heap.size := by omega); (try have hz2 : w.heap.size + 2 < w1.heap.size := by omega); (try have hz3 : w.heap.size + 3 < w1.heap.size := by omega); (try have hcA := fun o => hc w.heap.size o (by first | omega | (simp; omega))); (try have hcB := fun o => hc (w.heap.size + 1) o (by first | omega | (simp; omega)))) | (go_at_call 18; refine ( ho.out _ (by (repeat' first | (with_reducible exact Below.refl _ _) | (with_reducible refine Below.setCell ?_ (by first | omega | (simp; done) | (simp; omega)) _) | (with_reducible refine Below.alloc ?_ (by first | omega | (simp; done) | (simp; omega)) _) | refine below_drewN ?_ _ | refine Below.drew ?_ | (refine below_thru (by assumption) ?_ (by first | omega | (simp; done) | (simp; omega))) | exact Below.refl _ _))).mono ?_; rintro e w1 ⟨rfl, hb⟩; obtain ⟨hc, hfz⟩ := bcell hb; have hz := hb.size; (try simp at hz); (try have hz0 : w.heap.size < w1.heap.size := by omega); (try have hz1 : w.heap.size + 1 < w1.heap.size := by omega); (try have hz2 : w.heap.size + 2 < w1.heap.size := by omega); (try have hz3 : w.heap.size + 3 < w1.heap.size := by omega); (try have hcA := fun o => hc w.heap.size o (by first | omega | (simp; omega))); (try have hcB := fun o => hc (w.heap.size + 1) o (by first | omega | (simp; omega)))))
  refine bodyPost_ret (v := (Value.agg #[(Value.bool (o).opaq), (Value.int .i64 (o).id), (Value.string ⟨((o).scheme).toArray⟩), (Value.string ⟨(((o).host).name).toArray⟩), (Value.bool ((o).host).v4), (Value.int .u32 (((o).host).addr : Int)), (Value.int .i64 (o).port)])) (by simp only [results, Tryd.results11]; go_simp) rfl ⟨rfl, ?_⟩
  (repeat' first | (with_reducible exact Below.refl _ _) | (with_reducible refine Below.setCell ?_ (by first | omega | (simp; done) | (simp; omega)) _) | (with_reducible refine Below.alloc ?_ (by first | omega | (simp; done) | (simp; omega)) _) | refine below_drewN ?_ _ | refine Below.drew ?_ | (refine below_thru (by assumption) ?_ (by first | omega | (simp; done) | (simp; omega))) | exact Below.refl _ _)
theorem Blk.newI (w : World) (a : Obj) (t : TypeId) (cs : Array Value) : Blk ((w.alloc a).alloc (Obj.cells cs t)) (w.heap.size + 1) t cs := by
  have := Blk.new (w.alloc a) t cs
  simpa [World.size_alloc] using this
theorem Blk.newII (w : World) (a b : Obj) (t : TypeId) (cs : Array Value) : Blk (((w.alloc a).alloc b).alloc (Obj.cells cs t)) (w.heap.size + 1 + 1) t cs := by
  have := Blk.new ((w.alloc a).alloc b) t cs
  simpa [World.size_alloc] using this
theorem Blk.strs1 {W : World} {g : Nat} {t : TypeId} {s : List UInt8} (h : Blk W g t #[(Value.string ⟨(s).toArray⟩)]) : Strs W W.heap.size (.slice (some ⟨g, 0, none⟩) 1 1) [s] := by
  refine ⟨_, 1, rfl, Nat.le_refl _, by decide, fun _ => ⟨g, 0, rfl, h.lt, fun j hj => ?_⟩⟩
  obtain rfl : j = 0 := by simpa using hj
  rw [h.cell]
  rfl
theorem Strs.none0 (w : World) : Strs w w.heap.size (.slice none 0 0) [] := ⟨_, 0, rfl, Nat.le_refl _, Nat.zero_le _, fun h => absurd h (Nat.lt_irrefl _)⟩
theorem Blk.slots1 {W : World} {g n : Nat} {t : TypeId} {c : Array Value} (h : Blk W g t c) : Slots W W.heap.size (.slice (some ⟨g, 0, Option.none⟩) 1 1) n [c] := by
  refine ⟨_, 1, rfl, Nat.le_refl _, by decide, fun _ => ⟨g, 0, rfl, h.lt, fun j hj i hi => ?_⟩⟩
  obtain rfl : j = 0 := by simpa using hj
  rw [show 0 + 0 * n + i = i by omega, h.cell]
  rfl
def o18A : Gl.Origin := { scheme := [104, 116, 116, 112, 115], host := { name := [97] }, port := 443 }
def o18B : Gl.Origin := { scheme := [104, 116, 116, 112, 115], host := { name := [98] }, port := 443 }
def t18A : List UInt8 := [104, 116, 116, 112, 115, 58, 47, 47, 97, 47]
def t18B : List UInt8 := [104, 116, 116, 112, 115, 58, 47, 47, 98, 47]
def pol18 (v : Value) (L : List (List UInt8)) : Gl.Pol := ⟨true, v, false, .slice none 0 0, L, []⟩
set_option maxRecDepth 100000 in
theorem of18_A : Gl.originOf (Gl.parse t18A).1 0 = o18A := by decide +kernel
set_option maxRecDepth 100000 in
theorem of18_B : Gl.originOf (Gl.parse t18B).1 0 = o18B := by decide +kernel
theorem xfo18 : Gl.xfo 0 o18A [o18B] = true ∧ Gl.xfo 1 o18A [o18B] = false ∧ Gl.xfo 2 o18A [o18B] = false ∧ Gl.xfo 1 o18A [] = true := by decide +kernel
set_option maxRecDepth 100000 in
theorem lets18 : Gl.framesS true [[98]] o18A [o18B] = true ∧ Gl.framesS true [] o18A [o18B] = false := by decide +kernel
theorem frame18_1 : Gl.frameGo o18A [o18B] (Gl.xfo 0 o18A [o18B]) [] false = 0 := by rw [xfo18.1]; rfl
theorem frame18_2 : Gl.frameGo o18A [o18B] (Gl.xfo 2 o18A [o18B]) [] false = 3 := by rw [xfo18.2.2.1]; rfl
theorem frame18_3 (v : Value) : Gl.frameGo o18A [o18B] (Gl.xfo 1 o18A [o18B]) [pol18 v [[98]]] false = 0 := by
  rw [Gl.frameGo, show Gl.lets o18A [o18B] (pol18 v [[98]]) = true from lets18.1]; rfl
theorem frame18_4 (v : Value) : Gl.frameGo o18A [o18B] (Gl.xfo 0 o18A [o18B]) [pol18 v []] false = 2 := by
  rw [Gl.frameGo, show Gl.lets o18A [o18B] (pol18 v []) = false from lets18.2]; rfl
theorem polfit18 (v : Value) : PolFit (pol18 v [[98]]) := ⟨by show ([[98]] : List (List UInt8)).length ≤ 281474976710656; decide, fun s hs => by have h : s ∈ ([[98]] : List (List UInt8)) := hs; simp at h; subst h; decide⟩
theorem polfit180 (v : Value) : PolFit (pol18 v []) := ⟨by show ([] : List (List UInt8)).length ≤ 281474976710656; decide, fun s hs => by cases (show s ∈ ([] : List (List UInt8)) from hs)⟩
theorem ofit18 : OFit o18B := ⟨by decide, by decide⟩
set_option maxHeartbeats 4000000 in
set_option maxRecDepth 100000 in
theorem awake18 (w : World) (hE : Env w) : Calls Tryd.prog 6 #[] w (Ret w (.bool true)) := by
  have hA := fun W (hW : Below w.heap.size w W) => law18_of t18A W (hE.below hW) (by decide)
  have hB := fun W (hW : Below w.heap.size w W) => law18_of t18B W (hE.below hW) (by decide)
  rw [of18_A] at hA
  rw [of18_B] at hB
  unfold o18A t18A at hA
  unfold o18B t18B at hB
  replace hA := Lib.hid hA
  replace hB := Lib.hid hB
  have hF1 : ∀ gL W, Below w.heap.size w W → Blk W gL 34 #[.bool false, .int .i64 0, .string ⟨#[104, 116, 116, 112, 115]⟩, .string ⟨#[98]⟩, .bool false, .int .u32 0, .int .i64 443] → Calls Tryd.prog 12 #[.agg #[.slice none 0 0, .int .i64 0, .string ⟨#[]⟩, .int .i64 0, .string ⟨#[]⟩], .int .i64 0, .agg #[.bool false, .int .i64 0, .string ⟨#[104, 116, 116, 112, 115]⟩, .string ⟨#[97]⟩, .bool false, .int .u32 0, .int .i64 443], .slice (some ⟨gL, 0, none⟩) 1 1] W (Ret W (.int .i64 0)) := fun gL W hW hL => by
    have := embed_frame (.slice none 0 0) (.slice (some ⟨gL, 0, none⟩) 1 1) 0 0 0 [] [] [] [o18B] o18A W (hE.below hW) ⟨⟨_, 0, rfl, Nat.le_refl _, Nat.zero_le _, fun h => absurd h (Nat.lt_irrefl _)⟩, by simp⟩ (by simp) (by intro p hp; cases hp) (Blk.slots1 (c := ocells o18B) hL) (by decide) (by intro a ha; simp at ha; subst ha; exact ofit18)
    rw [frame18_1] at this
    exact this
  replace hF1 := Lib.hid hF1
  have hF2 : ∀ gL W, Below w.heap.size w W → Blk W gL 34 #[.bool false, .int .i64 0, .string ⟨#[104, 116, 116, 112, 115]⟩, .string ⟨#[98]⟩, .bool false, .int .u32 0, .int .i64 443] → Calls Tryd.prog 12 #[.agg #[.slice none 0 0, .int .i64 0, .string ⟨#[]⟩, .int .i64 0, .string ⟨#[]⟩], .int .i64 2, .agg #[.bool false, .int .i64 0, .string ⟨#[104, 116, 116, 112, 115]⟩, .string ⟨#[97]⟩, .bool false, .int .u32 0, .int .i64 443], .slice (some ⟨gL, 0, none⟩) 1 1] W (Ret W (.int .i64 3)) := fun gL W hW hL => by
    have := embed_frame (.slice none 0 0) (.slice (some ⟨gL, 0, none⟩) 1 1) 0 0 2 [] [] [] [o18B] o18A W (hE.below hW) ⟨⟨_, 0, rfl, Nat.le_refl _, Nat.zero_le _, fun h => absurd h (Nat.lt_irrefl _)⟩, by simp⟩ (by simp) (by intro p hp; cases hp) (Blk.slots1 (c := ocells o18B) hL) (by decide) (by intro a ha; simp at ha; subst ha; exact ofit18)
    rw [frame18_2] at this
    exact this
  replace hF2 := Lib.hid hF2
  have hF3 : ∀ gL gS gP W, Below w.heap.size w W → Blk W gL 34 #[.bool false, .int .i64 0, .string ⟨#[104, 116, 116, 112, 115]⟩, .string ⟨#[98]⟩, .bool false, .int .u32 0, .int .i64 443] → Blk W gS 9 #[.string ⟨#[98]⟩] ∧ Blk W gP 43 #[.bool true, .slice (some ⟨gS, 0, none⟩) 1 1, .bool false, .slice none 0 0] → Calls Tryd.prog 12 #[.agg #[.slice (some ⟨gP, 0, none⟩) 1 1, .int .i64 0, .string ⟨#[]⟩, .int .i64 0, .string ⟨#[]⟩], .int .i64 1, .agg #[.bool false, .int .i64 0, .string ⟨#[104, 116, 116, 112, 115]⟩, .string ⟨#[97]⟩, .bool false, .int .u32 0, .int .i64 443], .slice (some ⟨gL, 0, none⟩) 1 1] W (Ret W (.int .i64 0)) := fun gL gS gP W hW hL h1 => by
    have := embed_frame (.slice (some ⟨gP, 0, none⟩) 1 1) (.slice (some ⟨gL, 0, none⟩) 1 1) 0 0 1 [] [] [pol18 (.slice (some ⟨gS, 0, none⟩) 1 1) [[98]]] [o18B] o18A W (hE.below hW) ⟨Blk.slots1 (c := pcells (pol18 (.slice (some ⟨gS, 0, none⟩) 1 1) [[98]])) h1.2, by intro p hp; simp at hp; subst hp; exact ⟨Blk.strs1 (s := [98]) h1.1, Strs.none0 W⟩⟩ (by simp) (by intro p hp; simp at hp; subst hp; exact polfit18 _) (Blk.slots1 (c := ocells o18B) hL) (by decide) (by intro a ha; simp at ha; subst ha; exact ofit18)
    rw [frame18_3] at this
    exact this
  replace hF3 := Lib.hid hF3
  have hF4 : ∀ gL gQ W, Below w.heap.size w W → Blk W gL 34 #[.bool false, .int .i64 0, .string ⟨#[104, 116, 116, 112, 115]⟩, .string ⟨#[98]⟩, .bool false, .int .u32 0, .int .i64 443] → Blk W gQ 43 #[.bool true, .slice none 0 0, .bool false, .slice none 0 0] → Calls Tryd.prog 12 #[.agg #[.slice (some ⟨gQ, 0, none⟩) 1 1, .int .i64 0, .string ⟨#[]⟩, .int .i64 0, .string ⟨#[]⟩], .int .i64 0, .agg #[.bool false, .int .i64 0, .string ⟨#[104, 116, 116, 112, 115]⟩, .string ⟨#[97]⟩, .bool false, .int .u32 0, .int .i64 443], .slice (some ⟨gL, 0, none⟩) 1 1] W (Ret W (.int .i64 2)) := fun gL gQ W hW hL h1 => by
    have := embed_frame (.slice (some ⟨gQ, 0, none⟩) 1 1) (.slice (some ⟨gL, 0, none⟩) 1 1) 0 0 0 [] [] [pol18 (.slice none 0 0) []] [o18B] o18A W (hE.below hW) ⟨Blk.slots1 (c := pcells (pol18 (.slice none 0 0) [])) h1, by intro p hp; simp at hp; subst hp; exact ⟨Strs.none0 W, Strs.none0 W⟩⟩ (by simp) (by intro p hp; simp at hp; subst hp; exact polfit180 _) (Blk.slots1 (c := ocells o18B) hL) (by decide) (by intro a ha; simp at ha; subst ha; exact ofit18)
    rw [frame18_4] at this
    exact this
  replace hF4 := Lib.hid hF4
  have hX : ∀ W, Below w.heap.size w W → Calls Tryd.prog 10 #[.int .i64 1, .agg #[.bool false, .int .i64 0, .string ⟨#[104, 116, 116, 112, 115]⟩, .string ⟨#[97]⟩, .bool false, .int .u32 0, .int .i64 443], .slice none 0 0] W (Ret W (.bool true)) := fun W hW => by
    have := embed_xfo 1 o18A (.slice none 0 0) [] W (Slots.empty W 7) (by decide)
    rw [xfo18.2.2.2] at this
    exact this
  have hG : ∀ W, Calls Tryd.prog 7 #[.agg #[.int .i64 2, .string ⟨#[]⟩, .int .i64 0, .string ⟨#[]⟩], .agg #[.int .i64 0, .string ⟨#[]⟩, .int .i64 0, .string ⟨#[]⟩]] W (Ret W (.agg #[.bool false, .bool true, .bool false])) := fun W => embed_coep 2 0 0 0 [] [] [] [] W
  replace hX := Lib.hid hX
  replace hG := Lib.hid hG
  go_enter Tryd.func6, Tryd.ntmps6
  go_upto_region 1 with fail
  go_upto_region 1 with fail
  go_cut [1] from 8 (fun x w' => ∃ gA, x = .pointer (some ⟨gA, 0, none⟩) ∧ Below w.heap.size w w' ∧ Blk w' gA 34 #[.bool false, .int .i64 0, .string ⟨#[104, 116, 116, 112, 115]⟩, .string ⟨#[97]⟩, .bool false, .int .u32 0, .int .i64 443])
  case first =>
    go_wp2_with (go_at_call 11; refine ( hA.out _ (by (repeat' first | (with_reducible exact Below.refl _ _) | (with_reducible refine Below.setCell ?_ (by first | omega | (simp; done) | (simp; omega)) _) | (with_reducible refine Below.alloc ?_ (by first | omega | (simp; done) | (simp; omega)) _) | refine below_drewN ?_ _ | refine Below.drew ?_ | (refine below_thru (by assumption) ?_ (by first | omega | (simp; done) | (simp; omega))) | exact Below.refl _ _))).mono ?_; rintro e w1 ⟨rfl, hb⟩; obtain ⟨hc, hfz⟩ := bcell hb; have hz := hb.size; (try simp at hz); (try have hz0 : w.heap.size < w1.heap.size := by omega); (try have hz1 : w.heap.size + 1 < w1.heap.size := by omega); (try have hz2 : w.heap.size + 2 < w1.heap.size := by omega); (try have hz3 : w.heap.size + 3 < w1.heap.size := by omega); (try have hcA := fun o => hc w.heap.size o (by first | omega | (simp; omega))); (try have hcB := fun o => hc (w.heap.size + 1) o (by first | omega | (simp; omega))); (try have hcGgA := fun o => hc gA o (by first | omega | (simp; omega))); (try have hfGgA := fun o => hfz gA o (by first | omega | (simp; omega))); (try have hzGgA : gA < w1.heap.size := by omega))
    go_meet
    case rel => exact ⟨_, rfl, by (repeat' first | (with_reducible exact Below.refl _ _) | (with_reducible refine Below.setCell ?_ (by first | omega | (simp; done) | (simp; omega)) _) | (with_reducible refine Below.alloc ?_ (by first | omega | (simp; done) | (simp; omega)) _) | refine below_drewN ?_ _ | refine Below.drew ?_ | (refine below_thru (by assumption) ?_ (by first | omega | (simp; done) | (simp; omega))) | exact Below.refl _ _), by (repeat' first | (with_reducible assumption) | (with_reducible exact Blk.new _ _ _) | (with_reducible refine Blk.drew_ ?_) | (with_reducible refine Blk.alloc ?_ _) | (refine Blk.below ?_ (by assumption) (by first | omega | (simp; done) | (simp; omega))))⟩
  case rest =>
  obtain ⟨gA, rfl, hw, hBA⟩ := hcut
  have hwz := hw.size
  have hAl := hBA.lt
  have hAc := hBA.cell
  have hAf := hBA.frozen
  go_upto_region 2 with fail
  go_cut [2] from 8 (fun x w' => ∃ gL, x = .slice (some ⟨gL, 0, none⟩) 1 1 ∧ Below w.heap.size w w' ∧ Blk w' gA 34 #[.bool false, .int .i64 0, .string ⟨#[104, 116, 116, 112, 115]⟩, .string ⟨#[97]⟩, .bool false, .int .u32 0, .int .i64 443] ∧ Blk w' gL 34 #[.bool false, .int .i64 0, .string ⟨#[104, 116, 116, 112, 115]⟩, .string ⟨#[98]⟩, .bool false, .int .u32 0, .int .i64 443])
  case first =>
    go_wp2_with (go_at_call 11; refine ( hB.out _ (by (repeat' first | (with_reducible exact Below.refl _ _) | (with_reducible refine Below.setCell ?_ (by first | omega | (simp; done) | (simp; omega)) _) | (with_reducible refine Below.alloc ?_ (by first | omega | (simp; done) | (simp; omega)) _) | refine below_drewN ?_ _ | refine Below.drew ?_ | (refine below_thru (by assumption) ?_ (by first | omega | (simp; done) | (simp; omega))) | exact Below.refl _ _))).mono ?_; rintro e w1 ⟨rfl, hb⟩; obtain ⟨hc, hfz⟩ := bcell hb; have hz := hb.size; (try simp at hz); (try have hz0 : w.heap.size < w1.heap.size := by omega); (try have hz1 : w.heap.size + 1 < w1.heap.size := by omega); (try have hz2 : w.heap.size + 2 < w1.heap.size := by omega); (try have hz3 : w.heap.size + 3 < w1.heap.size := by omega); (try have hcA := fun o => hc w.heap.size o (by first | omega | (simp; omega))); (try have hcB := fun o => hc (w.heap.size + 1) o (by first | omega | (simp; omega))); (try have hcGgA := fun o => hc gA o (by first | omega | (simp; omega))); (try have hfGgA := fun o => hfz gA o (by first | omega | (simp; omega))); (try have hzGgA : gA < w1.heap.size := by omega))
    go_meet
    case rel => exact ⟨_, rfl, by (repeat' first | (with_reducible exact Below.refl _ _) | (with_reducible refine Below.setCell ?_ (by first | omega | (simp; done) | (simp; omega)) _) | (with_reducible refine Below.alloc ?_ (by first | omega | (simp; done) | (simp; omega)) _) | refine below_drewN ?_ _ | refine Below.drew ?_ | (refine below_thru (by assumption) ?_ (by first | omega | (simp; done) | (simp; omega))) | exact Below.refl _ _), by (repeat' first | (with_reducible assumption) | (with_reducible exact Blk.new _ _ _) | (with_reducible refine Blk.drew_ ?_) | (with_reducible refine Blk.alloc ?_ _) | (refine Blk.below ?_ (by assumption) (by first | omega | (simp; done) | (simp; omega)))), by (repeat' first | (with_reducible assumption) | (with_reducible exact Blk.new _ _ _) | (with_reducible refine Blk.drew_ ?_) | (with_reducible refine Blk.alloc ?_ _) | (refine Blk.below ?_ (by assumption) (by first | omega | (simp; done) | (simp; omega))))⟩
  case rest =>
  clear hw hwz hBA hAl hAc hAf
  obtain ⟨gL, rfl, hw, hBA, hBL⟩ := hcut
  have hwz := hw.size
  have hAl := hBA.lt
  have hAc := hBA.cell
  have hAf := hBA.frozen
  have hLl := hBL.lt
  have hLc := hBL.cell
  have hLf := hBL.frozen
  go_upto_region 3 with fail
  go_cut [3] from 8 (fun x w' => ∃ gS gP gC, x = .pointer (some ⟨gC, 0, none⟩) ∧ Below w.heap.size w w' ∧ Blk w' gA 34 #[.bool false, .int .i64 0, .string ⟨#[104, 116, 116, 112, 115]⟩, .string ⟨#[97]⟩, .bool false, .int .u32 0, .int .i64 443] ∧ Blk w' gL 34 #[.bool false, .int .i64 0, .string ⟨#[104, 116, 116, 112, 115]⟩, .string ⟨#[98]⟩, .bool false, .int .u32 0, .int .i64 443] ∧ Blk w' gS 9 #[.string ⟨#[98]⟩] ∧ Blk w' gP 43 #[.bool true, .slice (some ⟨gS, 0, none⟩) 1 1, .bool false, .slice none 0 0] ∧ Blk w' gC 46 #[.slice (some ⟨gP, 0, none⟩) 1 1, .int .i64 0, .string ⟨#[]⟩, .int .i64 0, .string ⟨#[]⟩])
  case first =>
    go_wp2_with fail
    go_meet
    case rel => exact ⟨wc.heap.size, wc.heap.size + 1, wc.heap.size + 1 + 1, rfl, by (repeat' first | (with_reducible exact Below.refl _ _) | (with_reducible refine Below.setCell ?_ (by first | omega | (simp; done) | (simp; omega)) _) | (with_reducible refine Below.alloc ?_ (by first | omega | (simp; done) | (simp; omega)) _) | refine below_drewN ?_ _ | refine Below.drew ?_ | (refine below_thru (by assumption) ?_ (by first | omega | (simp; done) | (simp; omega))) | exact Below.refl _ _), by (repeat' first | (with_reducible assumption) | (with_reducible exact Blk.new _ _ _) | (with_reducible refine Blk.drew_ ?_) | (with_reducible refine Blk.alloc ?_ _) | (refine Blk.below ?_ (by assumption) (by first | omega | (simp; done) | (simp; omega)))), by (repeat' first | (with_reducible assumption) | (with_reducible exact Blk.new _ _ _) | (with_reducible refine Blk.drew_ ?_) | (with_reducible refine Blk.alloc ?_ _) | (refine Blk.below ?_ (by assumption) (by first | omega | (simp; done) | (simp; omega)))), by (repeat' first | (with_reducible assumption) | (with_reducible exact Blk.new _ _ _) | (with_reducible refine Blk.drew_ ?_) | (with_reducible refine Blk.alloc ?_ _) | (refine Blk.below ?_ (by assumption) (by first | omega | (simp; done) | (simp; omega)))), (Blk.newI _ _ _ _).alloc _, Blk.newII _ _ _ _ _⟩
  case rest =>
  clear hw hwz hBA hAl hAc hAf hBL hLl hLc hLf
  obtain ⟨gS, gP, gC, rfl, hw, hBA, hBL, hBS, hBP, hBC⟩ := hcut
  have hwz := hw.size
  have hAl := hBA.lt
  have hAc := hBA.cell
  have hAf := hBA.frozen
  have hLl := hBL.lt
  have hLc := hBL.cell
  have hLf := hBL.frozen
  have hSl := hBS.lt
  have hSc := hBS.cell
  have hSf := hBS.frozen
  have hPl := hBP.lt
  have hPc := hBP.cell
  have hPf := hBP.frozen
  have hCl := hBC.lt
  have hCc := hBC.cell
  have hCf := hBC.frozen
  go_upto_region 4 with fail
  go_cut [4] from 8 (fun x w' => ∃ gQ gD, x = .pointer (some ⟨gD, 0, none⟩) ∧ Below w.heap.size w w' ∧ Blk w' gA 34 #[.bool false, .int .i64 0, .string ⟨#[104, 116, 116, 112, 115]⟩, .string ⟨#[97]⟩, .bool false, .int .u32 0, .int .i64 443] ∧ Blk w' gL 34 #[.bool false, .int .i64 0, .string ⟨#[104, 116, 116, 112, 115]⟩, .string ⟨#[98]⟩, .bool false, .int .u32 0, .int .i64 443] ∧ Blk w' gS 9 #[.string ⟨#[98]⟩] ∧ Blk w' gP 43 #[.bool true, .slice (some ⟨gS, 0, none⟩) 1 1, .bool false, .slice none 0 0] ∧ Blk w' gC 46 #[.slice (some ⟨gP, 0, none⟩) 1 1, .int .i64 0, .string ⟨#[]⟩, .int .i64 0, .string ⟨#[]⟩] ∧ Blk w' gQ 43 #[.bool true, .slice none 0 0, .bool false, .slice none 0 0] ∧ Blk w' gD 46 #[.slice (some ⟨gQ, 0, none⟩) 1 1, .int .i64 0, .string ⟨#[]⟩, .int .i64 0, .string ⟨#[]⟩])
  case first =>
    go_wp2_with fail
    go_meet
    case rel => exact ⟨wc.heap.size, wc.heap.size + 1, rfl, by (repeat' first | (with_reducible exact Below.refl _ _) | (with_reducible refine Below.setCell ?_ (by first | omega | (simp; done) | (simp; omega)) _) | (with_reducible refine Below.alloc ?_ (by first | omega | (simp; done) | (simp; omega)) _) | refine below_drewN ?_ _ | refine Below.drew ?_ | (refine below_thru (by assumption) ?_ (by first | omega | (simp; done) | (simp; omega))) | exact Below.refl _ _), by (repeat' first | (with_reducible assumption) | (with_reducible exact Blk.new _ _ _) | (with_reducible refine Blk.drew_ ?_) | (with_reducible refine Blk.alloc ?_ _) | (refine Blk.below ?_ (by assumption) (by first | omega | (simp; done) | (simp; omega)))), by (repeat' first | (with_reducible assumption) | (with_reducible exact Blk.new _ _ _) | (with_reducible refine Blk.drew_ ?_) | (with_reducible refine Blk.alloc ?_ _) | (refine Blk.below ?_ (by assumption) (by first | omega | (simp; done) | (simp; omega)))), by (repeat' first | (with_reducible assumption) | (with_reducible exact Blk.new _ _ _) | (with_reducible refine Blk.drew_ ?_) | (with_reducible refine Blk.alloc ?_ _) | (refine Blk.below ?_ (by assumption) (by first | omega | (simp; done) | (simp; omega)))), by (repeat' first | (with_reducible assumption) | (with_reducible exact Blk.new _ _ _) | (with_reducible refine Blk.drew_ ?_) | (with_reducible refine Blk.alloc ?_ _) | (refine Blk.below ?_ (by assumption) (by first | omega | (simp; done) | (simp; omega)))), by (repeat' first | (with_reducible assumption) | (with_reducible exact Blk.new _ _ _) | (with_reducible refine Blk.drew_ ?_) | (with_reducible refine Blk.alloc ?_ _) | (refine Blk.below ?_ (by assumption) (by first | omega | (simp; done) | (simp; omega)))), by (repeat' first | (with_reducible assumption) | (with_reducible exact Blk.new _ _ _) | (with_reducible refine Blk.drew_ ?_) | (with_reducible refine Blk.alloc ?_ _) | (refine Blk.below ?_ (by assumption) (by first | omega | (simp; done) | (simp; omega)))), Blk.newI _ _ _ _⟩
  case rest =>
  clear hw hwz hBA hAl hAc hAf hBL hLl hLc hLf hBS hSl hSc hSf hBP hPl hPc hPf hBC hCl hCc hCf
  obtain ⟨gQ, gD, rfl, hw, hBA, hBL, hBS, hBP, hBC, hBQ, hBD⟩ := hcut
  have hwz := hw.size
  have hAl := hBA.lt
  have hAc := hBA.cell
  have hAf := hBA.frozen
  have hLl := hBL.lt
  have hLc := hBL.cell
  have hLf := hBL.frozen
  have hSl := hBS.lt
  have hSc := hBS.cell
  have hSf := hBS.frozen
  have hPl := hBP.lt
  have hPc := hBP.cell
  have hPf := hBP.frozen
  have hCl := hBC.lt
  have hCc := hBC.cell
  have hCf := hBC.frozen
  have hQl := hBQ.lt
  have hQc := hBQ.cell
  have hQf := hBQ.frozen
  have hDl := hBD.lt
  have hDc := hBD.cell
  have hDf := hBD.frozen
  go_upto_region 5 with fail
  go_cut [5] from 8 (fun x w' => x = .bool true ∧ Below w.heap.size w w' ∧ Blk w' gA 34 #[.bool false, .int .i64 0, .string ⟨#[104, 116, 116, 112, 115]⟩, .string ⟨#[97]⟩, .bool false, .int .u32 0, .int .i64 443] ∧ Blk w' gL 34 #[.bool false, .int .i64 0, .string ⟨#[104, 116, 116, 112, 115]⟩, .string ⟨#[98]⟩, .bool false, .int .u32 0, .int .i64 443] ∧ Blk w' gS 9 #[.string ⟨#[98]⟩] ∧ Blk w' gP 43 #[.bool true, .slice (some ⟨gS, 0, none⟩) 1 1, .bool false, .slice none 0 0] ∧ Blk w' gC 46 #[.slice (some ⟨gP, 0, none⟩) 1 1, .int .i64 0, .string ⟨#[]⟩, .int .i64 0, .string ⟨#[]⟩] ∧ Blk w' gQ 43 #[.bool true, .slice none 0 0, .bool false, .slice none 0 0] ∧ Blk w' gD 46 #[.slice (some ⟨gQ, 0, none⟩) 1 1, .int .i64 0, .string ⟨#[]⟩, .int .i64 0, .string ⟨#[]⟩])
  case first =>
    go_wp2_with (first | (go_at_call 12; refine ( hF1.out _ _ (by (repeat' first | (with_reducible exact Below.refl _ _) | (with_reducible refine Below.setCell ?_ (by first | omega | (simp; done) | (simp; omega)) _) | (with_reducible refine Below.alloc ?_ (by first | omega | (simp; done) | (simp; omega)) _) | refine below_drewN ?_ _ | refine Below.drew ?_ | (refine below_thru (by assumption) ?_ (by first | omega | (simp; done) | (simp; omega))) | exact Below.refl _ _)) (by (repeat' first | (with_reducible assumption) | (with_reducible exact Blk.new _ _ _) | (with_reducible refine Blk.drew_ ?_) | (with_reducible refine Blk.alloc ?_ _) | (refine Blk.below ?_ (by assumption) (by first | omega | (simp; done) | (simp; omega)))))).mono ?_; rintro e w1 ⟨rfl, hb⟩; obtain ⟨hc, hfz⟩ := bcell hb; have hz := hb.size; (try simp at hz); (try have hz0 : w.heap.size < w1.heap.size := by omega); (try have hz1 : w.heap.size + 1 < w1.heap.size := by omega); (try have hz2 : w.heap.size + 2 < w1.heap.size := by omega); (try have hz3 : w.heap.size + 3 < w1.heap.size := by omega); (try have hcA := fun o => hc w.heap.size o (by first | omega | (simp; omega))); (try have hcB := fun o => hc (w.heap.size + 1) o (by first | omega | (simp; omega))); (try have hcGgA := fun o => hc gA o (by first | omega | (simp; omega))); (try have hfGgA := fun o => hfz gA o (by first | omega | (simp; omega))); (try have hzGgA : gA < w1.heap.size := by omega); (try have hcGgC := fun o => hc gC o (by first | omega | (simp; omega))); (try have hfGgC := fun o => hfz gC o (by first | omega | (simp; omega))); (try have hzGgC : gC < w1.heap.size := by omega); (try have hcGgD := fun o => hc gD o (by first | omega | (simp; omega))); (try have hfGgD := fun o => hfz gD o (by first | omega | (simp; omega))); (try have hzGgD : gD < w1.heap.size := by omega)) | (go_at_call 12; refine ( hF2.out _ _ (by (repeat' first | (with_reducible exact Below.refl _ _) | (with_reducible refine Below.setCell ?_ (by first | omega | (simp; done) | (simp; omega)) _) | (with_reducible refine Below.alloc ?_ (by first | omega | (simp; done) | (simp; omega)) _) | refine below_drewN ?_ _ | refine Below.drew ?_ | (refine below_thru (by assumption) ?_ (by first | omega | (simp; done) | (simp; omega))) | exact Below.refl _ _)) (by (repeat' first | (with_reducible assumption) | (with_reducible exact Blk.new _ _ _) | (with_reducible refine Blk.drew_ ?_) | (with_reducible refine Blk.alloc ?_ _) | (refine Blk.below ?_ (by assumption) (by first | omega | (simp; done) | (simp; omega)))))).mono ?_; rintro e w1 ⟨rfl, hb⟩; obtain ⟨hc, hfz⟩ := bcell hb; have hz := hb.size; (try simp at hz); (try have hz0 : w.heap.size < w1.heap.size := by omega); (try have hz1 : w.heap.size + 1 < w1.heap.size := by omega); (try have hz2 : w.heap.size + 2 < w1.heap.size := by omega); (try have hz3 : w.heap.size + 3 < w1.heap.size := by omega); (try have hcA := fun o => hc w.heap.size o (by first | omega | (simp; omega))); (try have hcB := fun o => hc (w.heap.size + 1) o (by first | omega | (simp; omega))); (try have hcGgA := fun o => hc gA o (by first | omega | (simp; omega))); (try have hfGgA := fun o => hfz gA o (by first | omega | (simp; omega))); (try have hzGgA : gA < w1.heap.size := by omega); (try have hcGgC := fun o => hc gC o (by first | omega | (simp; omega))); (try have hfGgC := fun o => hfz gC o (by first | omega | (simp; omega))); (try have hzGgC : gC < w1.heap.size := by omega); (try have hcGgD := fun o => hc gD o (by first | omega | (simp; omega))); (try have hfGgD := fun o => hfz gD o (by first | omega | (simp; omega))); (try have hzGgD : gD < w1.heap.size := by omega)))
    go_meet
    case rel => exact ⟨rfl, by (repeat' first | (with_reducible exact Below.refl _ _) | (with_reducible refine Below.setCell ?_ (by first | omega | (simp; done) | (simp; omega)) _) | (with_reducible refine Below.alloc ?_ (by first | omega | (simp; done) | (simp; omega)) _) | refine below_drewN ?_ _ | refine Below.drew ?_ | (refine below_thru (by assumption) ?_ (by first | omega | (simp; done) | (simp; omega))) | exact Below.refl _ _), by (repeat' first | (with_reducible assumption) | (with_reducible exact Blk.new _ _ _) | (with_reducible refine Blk.drew_ ?_) | (with_reducible refine Blk.alloc ?_ _) | (refine Blk.below ?_ (by assumption) (by first | omega | (simp; done) | (simp; omega)))), by (repeat' first | (with_reducible assumption) | (with_reducible exact Blk.new _ _ _) | (with_reducible refine Blk.drew_ ?_) | (with_reducible refine Blk.alloc ?_ _) | (refine Blk.below ?_ (by assumption) (by first | omega | (simp; done) | (simp; omega)))), by (repeat' first | (with_reducible assumption) | (with_reducible exact Blk.new _ _ _) | (with_reducible refine Blk.drew_ ?_) | (with_reducible refine Blk.alloc ?_ _) | (refine Blk.below ?_ (by assumption) (by first | omega | (simp; done) | (simp; omega)))), by (repeat' first | (with_reducible assumption) | (with_reducible exact Blk.new _ _ _) | (with_reducible refine Blk.drew_ ?_) | (with_reducible refine Blk.alloc ?_ _) | (refine Blk.below ?_ (by assumption) (by first | omega | (simp; done) | (simp; omega)))), by (repeat' first | (with_reducible assumption) | (with_reducible exact Blk.new _ _ _) | (with_reducible refine Blk.drew_ ?_) | (with_reducible refine Blk.alloc ?_ _) | (refine Blk.below ?_ (by assumption) (by first | omega | (simp; done) | (simp; omega)))), by (repeat' first | (with_reducible assumption) | (with_reducible exact Blk.new _ _ _) | (with_reducible refine Blk.drew_ ?_) | (with_reducible refine Blk.alloc ?_ _) | (refine Blk.below ?_ (by assumption) (by first | omega | (simp; done) | (simp; omega)))), by (repeat' first | (with_reducible assumption) | (with_reducible exact Blk.new _ _ _) | (with_reducible refine Blk.drew_ ?_) | (with_reducible refine Blk.alloc ?_ _) | (refine Blk.below ?_ (by assumption) (by first | omega | (simp; done) | (simp; omega))))⟩
  case rest =>
  clear hw hwz hBA hAl hAc hAf hBL hLl hLc hLf hBS hSl hSc hSf hBP hPl hPc hPf hBC hCl hCc hCf hBQ hQl hQc hQf hBD hDl hDc hDf
  obtain ⟨rfl, hw, hBA, hBL, hBS, hBP, hBC, hBQ, hBD⟩ := hcut
  have hwz := hw.size
  have hAl := hBA.lt
  have hAc := hBA.cell
  have hAf := hBA.frozen
  have hLl := hBL.lt
  have hLc := hBL.cell
  have hLf := hBL.frozen
  have hSl := hBS.lt
  have hSc := hBS.cell
  have hSf := hBS.frozen
  have hPl := hBP.lt
  have hPc := hBP.cell
  have hPf := hBP.frozen
  have hCl := hBC.lt
  have hCc := hBC.cell
  have hCf := hBC.frozen
  have hQl := hBQ.lt
  have hQc := hBQ.cell
  have hQf := hBQ.frozen
  have hDl := hBD.lt
  have hDc := hBD.cell
  have hDf := hBD.frozen
  go_upto_region 6 with fail
  go_cut [6] from 8 (fun x w' => x = .bool true ∧ Below w.heap.size w w' ∧ Blk w' gA 34 #[.bool false, .int .i64 0, .string ⟨#[104, 116, 116, 112, 115]⟩, .string ⟨#[97]⟩, .bool false, .int .u32 0, .int .i64 443] ∧ Blk w' gL 34 #[.bool false, .int .i64 0, .string ⟨#[104, 116, 116, 112, 115]⟩, .string ⟨#[98]⟩, .bool false, .int .u32 0, .int .i64 443] ∧ Blk w' gS 9 #[.string ⟨#[98]⟩] ∧ Blk w' gP 43 #[.bool true, .slice (some ⟨gS, 0, none⟩) 1 1, .bool false, .slice none 0 0] ∧ Blk w' gC 46 #[.slice (some ⟨gP, 0, none⟩) 1 1, .int .i64 0, .string ⟨#[]⟩, .int .i64 0, .string ⟨#[]⟩] ∧ Blk w' gQ 43 #[.bool true, .slice none 0 0, .bool false, .slice none 0 0] ∧ Blk w' gD 46 #[.slice (some ⟨gQ, 0, none⟩) 1 1, .int .i64 0, .string ⟨#[]⟩, .int .i64 0, .string ⟨#[]⟩])
  case first =>
    go_wp2_with (first | (go_at_call 12; refine ( hF3.out _ _ _ _ (by (repeat' first | (with_reducible exact Below.refl _ _) | (with_reducible refine Below.setCell ?_ (by first | omega | (simp; done) | (simp; omega)) _) | (with_reducible refine Below.alloc ?_ (by first | omega | (simp; done) | (simp; omega)) _) | refine below_drewN ?_ _ | refine Below.drew ?_ | (refine below_thru (by assumption) ?_ (by first | omega | (simp; done) | (simp; omega))) | exact Below.refl _ _)) (by (repeat' first | (with_reducible assumption) | (with_reducible exact Blk.new _ _ _) | (with_reducible refine Blk.drew_ ?_) | (with_reducible refine Blk.alloc ?_ _) | (refine Blk.below ?_ (by assumption) (by first | omega | (simp; done) | (simp; omega))))) ⟨by (repeat' first | (with_reducible assumption) | (with_reducible exact Blk.new _ _ _) | (with_reducible refine Blk.drew_ ?_) | (with_reducible refine Blk.alloc ?_ _) | (refine Blk.below ?_ (by assumption) (by first | omega | (simp; done) | (simp; omega)))), by (repeat' first | (with_reducible assumption) | (with_reducible exact Blk.new _ _ _) | (with_reducible refine Blk.drew_ ?_) | (with_reducible refine Blk.alloc ?_ _) | (refine Blk.below ?_ (by assumption) (by first | omega | (simp; done) | (simp; omega))))⟩).mono ?_; rintro e w1 ⟨rfl, hb⟩; obtain ⟨hc, hfz⟩ := bcell hb; have hz := hb.size; (try simp at hz); (try have hz0 : w.heap.size < w1.heap.size := by omega); (try have hz1 : w.heap.size + 1 < w1.heap.size := by omega); (try have hz2 : w.heap.size + 2 < w1.heap.size := by omega); (try have hz3 : w.heap.size + 3 < w1.heap.size := by omega); (try have hcA := fun o => hc w.heap.size o (by first | omega | (simp; omega))); (try have hcB := fun o => hc (w.heap.size + 1) o (by first | omega | (simp; omega))); (try have hcGgA := fun o => hc gA o (by first | omega | (simp; omega))); (try have hfGgA := fun o => hfz gA o (by first | omega | (simp; omega))); (try have hzGgA : gA < w1.heap.size := by omega); (try have hcGgC := fun o => hc gC o (by first | omega | (simp; omega))); (try have hfGgC := fun o => hfz gC o (by first | omega | (simp; omega))); (try have hzGgC : gC < w1.heap.size := by omega); (try have hcGgD := fun o => hc gD o (by first | omega | (simp; omega))); (try have hfGgD := fun o => hfz gD o (by first | omega | (simp; omega))); (try have hzGgD : gD < w1.heap.size := by omega)) | (go_at_call 12; refine ( hF4.out _ _ _ (by (repeat' first | (with_reducible exact Below.refl _ _) | (with_reducible refine Below.setCell ?_ (by first | omega | (simp; done) | (simp; omega)) _) | (with_reducible refine Below.alloc ?_ (by first | omega | (simp; done) | (simp; omega)) _) | refine below_drewN ?_ _ | refine Below.drew ?_ | (refine below_thru (by assumption) ?_ (by first | omega | (simp; done) | (simp; omega))) | exact Below.refl _ _)) (by (repeat' first | (with_reducible assumption) | (with_reducible exact Blk.new _ _ _) | (with_reducible refine Blk.drew_ ?_) | (with_reducible refine Blk.alloc ?_ _) | (refine Blk.below ?_ (by assumption) (by first | omega | (simp; done) | (simp; omega))))) (by (repeat' first | (with_reducible assumption) | (with_reducible exact Blk.new _ _ _) | (with_reducible refine Blk.drew_ ?_) | (with_reducible refine Blk.alloc ?_ _) | (refine Blk.below ?_ (by assumption) (by first | omega | (simp; done) | (simp; omega)))))).mono ?_; rintro e w1 ⟨rfl, hb⟩; obtain ⟨hc, hfz⟩ := bcell hb; have hz := hb.size; (try simp at hz); (try have hz0 : w.heap.size < w1.heap.size := by omega); (try have hz1 : w.heap.size + 1 < w1.heap.size := by omega); (try have hz2 : w.heap.size + 2 < w1.heap.size := by omega); (try have hz3 : w.heap.size + 3 < w1.heap.size := by omega); (try have hcA := fun o => hc w.heap.size o (by first | omega | (simp; omega))); (try have hcB := fun o => hc (w.heap.size + 1) o (by first | omega | (simp; omega))); (try have hcGgA := fun o => hc gA o (by first | omega | (simp; omega))); (try have hfGgA := fun o => hfz gA o (by first | omega | (simp; omega))); (try have hzGgA : gA < w1.heap.size := by omega); (try have hcGgC := fun o => hc gC o (by first | omega | (simp; omega))); (try have hfGgC := fun o => hfz gC o (by first | omega | (simp; omega))); (try have hzGgC : gC < w1.heap.size := by omega); (try have hcGgD := fun o => hc gD o (by first | omega | (simp; omega))); (try have hfGgD := fun o => hfz gD o (by first | omega | (simp; omega))); (try have hzGgD : gD < w1.heap.size := by omega)))
    go_meet
    case rel => exact ⟨rfl, by (repeat' first | (with_reducible exact Below.refl _ _) | (with_reducible refine Below.setCell ?_ (by first | omega | (simp; done) | (simp; omega)) _) | (with_reducible refine Below.alloc ?_ (by first | omega | (simp; done) | (simp; omega)) _) | refine below_drewN ?_ _ | refine Below.drew ?_ | (refine below_thru (by assumption) ?_ (by first | omega | (simp; done) | (simp; omega))) | exact Below.refl _ _), by (repeat' first | (with_reducible assumption) | (with_reducible exact Blk.new _ _ _) | (with_reducible refine Blk.drew_ ?_) | (with_reducible refine Blk.alloc ?_ _) | (refine Blk.below ?_ (by assumption) (by first | omega | (simp; done) | (simp; omega)))), by (repeat' first | (with_reducible assumption) | (with_reducible exact Blk.new _ _ _) | (with_reducible refine Blk.drew_ ?_) | (with_reducible refine Blk.alloc ?_ _) | (refine Blk.below ?_ (by assumption) (by first | omega | (simp; done) | (simp; omega)))), by (repeat' first | (with_reducible assumption) | (with_reducible exact Blk.new _ _ _) | (with_reducible refine Blk.drew_ ?_) | (with_reducible refine Blk.alloc ?_ _) | (refine Blk.below ?_ (by assumption) (by first | omega | (simp; done) | (simp; omega)))), by (repeat' first | (with_reducible assumption) | (with_reducible exact Blk.new _ _ _) | (with_reducible refine Blk.drew_ ?_) | (with_reducible refine Blk.alloc ?_ _) | (refine Blk.below ?_ (by assumption) (by first | omega | (simp; done) | (simp; omega)))), by (repeat' first | (with_reducible assumption) | (with_reducible exact Blk.new _ _ _) | (with_reducible refine Blk.drew_ ?_) | (with_reducible refine Blk.alloc ?_ _) | (refine Blk.below ?_ (by assumption) (by first | omega | (simp; done) | (simp; omega)))), by (repeat' first | (with_reducible assumption) | (with_reducible exact Blk.new _ _ _) | (with_reducible refine Blk.drew_ ?_) | (with_reducible refine Blk.alloc ?_ _) | (refine Blk.below ?_ (by assumption) (by first | omega | (simp; done) | (simp; omega)))), by (repeat' first | (with_reducible assumption) | (with_reducible exact Blk.new _ _ _) | (with_reducible refine Blk.drew_ ?_) | (with_reducible refine Blk.alloc ?_ _) | (refine Blk.below ?_ (by assumption) (by first | omega | (simp; done) | (simp; omega))))⟩
  case rest =>
  clear hw hwz hBA hAl hAc hAf hBL hLl hLc hLf hBS hSl hSc hSf hBP hPl hPc hPf hBC hCl hCc hCf hBQ hQl hQc hQf hBD hDl hDc hDf
  obtain ⟨rfl, hw, hBA, hBL, hBS, hBP, hBC, hBQ, hBD⟩ := hcut
  have hwz := hw.size
  have hAl := hBA.lt
  have hAc := hBA.cell
  have hAf := hBA.frozen
  have hLl := hBL.lt
  have hLc := hBL.cell
  have hLf := hBL.frozen
  have hSl := hBS.lt
  have hSc := hBS.cell
  have hSf := hBS.frozen
  have hPl := hBP.lt
  have hPc := hBP.cell
  have hPf := hBP.frozen
  have hCl := hBC.lt
  have hCc := hBC.cell
  have hCf := hBC.frozen
  have hQl := hBQ.lt
  have hQc := hBQ.cell
  have hQf := hBQ.frozen
  have hDl := hBD.lt
  have hDc := hBD.cell
  have hDf := hBD.frozen
  clear hBL hLl hLc hLf hBS hSl hSc hSf hBP hPl hPc hPf hBC hCl hCc hCf hBQ hQl hQc hQf hBD hDl hDc hDf
  go_wp2_with (first | (go_at_call 7; refine ( hG.out _).mono ?_; rintro e w1 ⟨rfl, hb⟩; obtain ⟨hc, hfz⟩ := bcell hb; have hz := hb.size; (try simp at hz); (try have hz0 : w.heap.size < w1.heap.size := by omega); (try have hz1 : w.heap.size + 1 < w1.heap.size := by omega); (try have hz2 : w.heap.size + 2 < w1.heap.size := by omega); (try have hz3 : w.heap.size + 3 < w1.heap.size := by omega); (try have hcA := fun o => hc w.heap.size o (by first | omega | (simp; omega))); (try have hcB := fun o => hc (w.heap.size + 1) o (by first | omega | (simp; omega))); (try have hcGgA := fun o => hc gA o (by first | omega | (simp; omega))); (try have hfGgA := fun o => hfz gA o (by first | omega | (simp; omega))); (try have hzGgA : gA < w1.heap.size := by omega); (try have hcGgC := fun o => hc gC o (by first | omega | (simp; omega))); (try have hfGgC := fun o => hfz gC o (by first | omega | (simp; omega))); (try have hzGgC : gC < w1.heap.size := by omega); (try have hcGgD := fun o => hc gD o (by first | omega | (simp; omega))); (try have hfGgD := fun o => hfz gD o (by first | omega | (simp; omega))); (try have hzGgD : gD < w1.heap.size := by omega)) | (go_at_call 10; refine ( hX.out _ (by (repeat' first | (with_reducible exact Below.refl _ _) | (with_reducible refine Below.setCell ?_ (by first | omega | (simp; done) | (simp; omega)) _) | (with_reducible refine Below.alloc ?_ (by first | omega | (simp; done) | (simp; omega)) _) | refine below_drewN ?_ _ | refine Below.drew ?_ | (refine below_thru (by assumption) ?_ (by first | omega | (simp; done) | (simp; omega))) | exact Below.refl _ _))).mono ?_; rintro e w1 ⟨rfl, hb⟩; obtain ⟨hc, hfz⟩ := bcell hb; have hz := hb.size; (try simp at hz); (try have hz0 : w.heap.size < w1.heap.size := by omega); (try have hz1 : w.heap.size + 1 < w1.heap.size := by omega); (try have hz2 : w.heap.size + 2 < w1.heap.size := by omega); (try have hz3 : w.heap.size + 3 < w1.heap.size := by omega); (try have hcA := fun o => hc w.heap.size o (by first | omega | (simp; omega))); (try have hcB := fun o => hc (w.heap.size + 1) o (by first | omega | (simp; omega))); (try have hcGgA := fun o => hc gA o (by first | omega | (simp; omega))); (try have hfGgA := fun o => hfz gA o (by first | omega | (simp; omega))); (try have hzGgA : gA < w1.heap.size := by omega); (try have hcGgC := fun o => hc gC o (by first | omega | (simp; omega))); (try have hfGgC := fun o => hfz gC o (by first | omega | (simp; omega))); (try have hzGgC : gC < w1.heap.size := by omega); (try have hcGgD := fun o => hc gD o (by first | omega | (simp; omega))); (try have hfGgD := fun o => hfz gD o (by first | omega | (simp; omega))); (try have hzGgD : gD < w1.heap.size := by omega)))
  go_ret
  exact ⟨rfl, by (repeat' first | (with_reducible exact Below.refl _ _) | (with_reducible refine Below.setCell ?_ (by first | omega | (simp; done) | (simp; omega)) _) | (with_reducible refine Below.alloc ?_ (by first | omega | (simp; done) | (simp; omega)) _) | refine below_drewN ?_ _ | refine Below.drew ?_ | (refine below_thru (by assumption) ?_ (by first | omega | (simp; done) | (simp; omega))) | exact Below.refl _ _)⟩
theorem law18_names (w : World) (hE : Env w) : Calls Tryd.prog 3 #[] w (Ret w (.bool true)) := by
  go_enter Tryd.func3, Tryd.ntmps3
  go_wp2_with (go_at_call 6; refine ( awake18 _ hE).mono ?_; rintro e w1 ⟨rfl, hb⟩; obtain ⟨hc, hfz⟩ := bcell hb; have hz := hb.size; (try simp at hz); (try have hz0 : w.heap.size < w1.heap.size := by omega); (try have hz1 : w.heap.size + 1 < w1.heap.size := by omega); (try have hz2 : w.heap.size + 2 < w1.heap.size := by omega); (try have hz3 : w.heap.size + 3 < w1.heap.size := by omega); (try have hcA := fun o => hc w.heap.size o (by first | omega | (simp; omega))); (try have hcB := fun o => hc (w.heap.size + 1) o (by first | omega | (simp; omega))))
  go_ret
  exact ⟨rfl, by (repeat' first | (with_reducible exact Below.refl _ _) | (with_reducible refine Below.setCell ?_ (by first | omega | (simp; done) | (simp; omega)) _) | (with_reducible refine Below.alloc ?_ (by first | omega | (simp; done) | (simp; omega)) _) | refine below_drewN ?_ _ | refine Below.drew ?_ | (refine below_thru (by assumption) ?_ (by first | omega | (simp; done) | (simp; omega))) | exact Below.refl _ _)⟩
end Go.Proofs.YtkfoogmncokjnaaDoor
