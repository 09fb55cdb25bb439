/- A request opened. -/
import Derived.Test.YtbafofldgkigmaaGreatDoorRows14
namespace Go.Proofs.YtbafofldgkigmaaGreatDoor
open Go.ChangeShapes Go.WideShapes Go.ChangeAt Go.RowKit Go.Deep
structure Gl.Req where
  mode : Int
  creds : Int
  origin : Gl.Origin
  coep : Int
section
variable {H : Type} {enc : TypeId × Value → H} {w : World} {base : Nat} {spare : Nat → Bool} {held : Bool}
set_option maxRecDepth 100000 in
theorem open_request_cells {fuel : Nat} {cs : List Value} {x : DataW H × List MemPlace} (h : DataW.trod enc Tryz.prog w base spare held fuel 54 cs = some x) :
    ∃ q : Gl.Req, cs = [.int .i64 q.mode, .int .i64 q.creds, (Value.bool (q.origin).opaq), (Value.int .i64 (q.origin).id), (Value.string ⟨((q.origin).scheme).toArray⟩), (Value.string ⟨(((q.origin).host).name).toArray⟩), (Value.bool ((q.origin).host).v4), (Value.int .u32 (((q.origin).host).addr : Int)), (Value.int .i64 (q.origin).port), .int .i64 q.coep] ∧ OriginFits q.origin := by
  obtain ⟨xs, n, _, _, hl, hlen, hf⟩ := DataW.trod_struct Tryz.underlying54 h
  rw [show (Tryz.prog).cellsOf 54 = 10 by kernel_rfl] at hl
  match cs, hl with
  | [c0, c1, c2, c3, c4, c5, c6, c7, c8, c9], _ =>
    have f0 := hf 0 _ rfl
    have f1 := hf 1 _ rfl
    have f2 := hf 2 _ rfl
    have f3 := hf 3 _ rfl
    simp only [show (Tryz.prog).cellsOf 3 = 1 by kernel_rfl, show (Tryz.prog).cellsOf 35 = 7 by kernel_rfl, List.getElem_toArray, List.getElem_cons_zero, List.getElem_cons_succ, List.drop_zero, List.drop_succ_cons, List.take_succ_cons, List.take_zero] at f0 f1 f2 f3
    have g : ∀ i : Nat, i < 4 → ∃ y, xs[i]? = some y := fun i hi => ⟨xs[i]'(by rw [hlen]; exact hi), List.getElem?_eq_getElem _⟩
    obtain ⟨y0, e0⟩ := g 0 (by decide)
    obtain ⟨y1, e1⟩ := g 1 (by decide)
    obtain ⟨y2, e2⟩ := g 2 (by decide)
    obtain ⟨y3, e3⟩ := g 3 (by decide)
    obtain ⟨k0, h0, hk0⟩ := trod_i64 Tryz.underlying3 (f0.trans e0)
    obtain ⟨k1, h1, hk1⟩ := trod_i64 Tryz.underlying3 (f1.trans e1)
    obtain ⟨o, h2, ho⟩ := open_origin_cells (f2.trans e2)
    obtain ⟨k3, h3, hk3⟩ := trod_i64 Tryz.underlying3 (f3.trans e3)
    simp only [ocells, List.cons.injEq, and_true] at h0 h1 h2 h3
    obtain ⟨h2a, h2b, h2c, h2d, h2e, h2f, h2g⟩ := h2
    subst h0 h1 h2a h2b h2c h2d h2e h2f h2g h3
    exact ⟨⟨k0, k1, o, k3⟩, rfl, ho⟩
set_option maxRecDepth 100000 in
theorem open_request {v : Value} {d : DataW H} {p : List MemPlace} {r : Reach} {b0 : Nat} (hval : Value.okWide Tryz.prog w r b0 54 v) (hd : DataW.Trod enc Tryz.prog w 0 (fun _ => true) held 54 v d p) :
    ∃ q : Gl.Req, v = .agg #[.int .i64 q.mode, .int .i64 q.creds, (Value.bool (q.origin).opaq), (Value.int .i64 (q.origin).id), (Value.string ⟨((q.origin).scheme).toArray⟩), (Value.string ⟨(((q.origin).host).name).toArray⟩), (Value.bool ((q.origin).host).v4), (Value.int .u32 (((q.origin).host).addr : Int)), (Value.int .i64 (q.origin).port), .int .i64 q.coep] ∧ OriginFits q.origin := by
  unfold Value.okWide at hval
  rw [Tryz.underlying54] at hval
  obtain ⟨cs, rfl, hsz, _⟩ := hval
  obtain ⟨fuel, h⟩ := hd
  obtain ⟨cs⟩ := cs
  obtain ⟨q, h1, h2⟩ := open_request_cells (show DataW.trod enc Tryz.prog w 0 (fun _ => true) held fuel 54 cs = _ from h)
  subst h1
  exact ⟨q, rfl, h2⟩
end
end Go.Proofs.YtbafofldgkigmaaGreatDoor
