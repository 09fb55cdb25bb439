/- A script of calls opened. -/
import Derived.Test.YtbafofldgkigmaaGreatDoorRows11
import Derived.Test.YtbafofldgkigmaaGreatDoorPlays17
namespace Go.Proofs.YtbafofldgkigmaaGreatDoor
open Go.ChangeShapes Go.WideShapes Go.ChangeAt Go.RowKit Go.Deep
section
variable {H : Type} {enc : TypeId × Value → H} {w : World} {base : Nat} {spare : Nat → Bool} {held : Bool}
set_option maxRecDepth 100000 in
theorem open_call_cells {fuel : Nat} {cs : List Value} {x : DataW H × List MemPlace} (h : DataW.trod enc Tryz.prog w base spare held fuel 72 cs = some x) :
    ∃ q : Gl.Call, cs = (kcells q).toList ∧ CallFit q := by
  obtain ⟨xs, n, _, _, hl, hlen, hf⟩ := DataW.trod_struct Tryz.underlying72 h
  rw [show (Tryz.prog).cellsOf 72 = 10 by kernel_rfl] at hl
  match cs, hl with
  | [c0, c1, c2, c3, c4, c5, c6, c7, c8, c9], _ =>
    have f0 := hf 0 _ rfl
    have f1 := hf 1 _ rfl
    have f2 := hf 2 _ rfl
    have f3 := hf 3 _ rfl
    simp only [show (Tryz.prog).cellsOf 3 = 1 by kernel_rfl, show (Tryz.prog).cellsOf 4 = 1 by kernel_rfl, show (Tryz.prog).cellsOf 35 = 7 by kernel_rfl, List.getElem_toArray, List.getElem_cons_zero, List.getElem_cons_succ, List.drop_zero, List.drop_succ_cons, List.take_succ_cons, List.take_zero] at f0 f1 f2 f3
    have g : ∀ i : Nat, i < 4 → ∃ y, xs[i]? = some y := fun i hi => ⟨xs[i]'(by rw [hlen]; exact hi), List.getElem?_eq_getElem _⟩
    obtain ⟨y0, e0⟩ := g 0 (by decide)
    obtain ⟨y1, e1⟩ := g 1 (by decide)
    obtain ⟨y2, e2⟩ := g 2 (by decide)
    obtain ⟨y3, e3⟩ := g 3 (by decide)
    obtain ⟨k0, h0, _⟩ := trod_i64 Tryz.underlying3 (f0.trans e0)
    obtain ⟨k1, h1, _⟩ := trod_i64 Tryz.underlying3 (f1.trans e1)
    obtain ⟨b2, h2⟩ := trod_boo Tryz.underlying4 (f2.trans e2)
    obtain ⟨o, h3, ho⟩ := open_origin_cells (f3.trans e3)
    simp only [ocells, List.cons.injEq, and_true] at h0 h1 h2 h3
    obtain ⟨h3a, h3b, h3c, h3d, h3e, h3f, h3g⟩ := h3
    subst h0 h1 h2 h3a h3b h3c h3d h3e h3f h3g
    exact ⟨⟨k0, k1, b2, o⟩, rfl, ho.addr, ho.port, ho.id⟩
set_option maxRecDepth 100000 in
theorem open_script {v : Value} {d : DataW H} {p : List MemPlace} {r : Reach} {b0 : Nat} (hval : Value.okWide Tryz.prog w r b0 64 v) (hd : DataW.Trod enc Tryz.prog w 0 (fun _ => true) held 64 v d p) :
    ∃ As : List Gl.Call, Slots w w.heap.size v 10 (As.map kcells) ∧ ∀ a ∈ As, CallFit a := by
  obtain ⟨fuel, h⟩ := hd
  obtain ⟨A, n, c, rfl⟩ := okWide_slice Tryz.underlying64 hval
  obtain ⟨L, hL, hQ⟩ := open_slots (Q := fun cs => ∃ o : Gl.Call, cs = (kcells o).toList ∧ CallFit o) Tryz.underlying64 (show (Tryz.prog).cellsOf 72 = 10 by kernel_rfl) (by decide) (fun _ _ _ h => open_call_cells h) h
  obtain ⟨As, rfl, hA⟩ := list_of L (fun c hc => (hQ c hc).1)
  exact ⟨As, hL, hA⟩
end
end Go.Proofs.YtbafofldgkigmaaGreatDoor
