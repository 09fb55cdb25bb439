/- Arguments opened: origins, rows of texts. -/
import Derived.Test.YtbafofldgkigmaaGreatDoorRows0
import Derived.SliceStrings
import Derived.Test.YtbafofldgkigmaaGreatDoorFour
namespace Go.Proofs.YtbafofldgkigmaaGreatDoor
open Go.ChangeShapes Go.WideShapes Go.ChangeAt Go.RowKit
section
variable {H : Type} {enc : TypeId × Value → H} {w : World} {base : Nat} {spare : Nat → Bool} {held : Bool}
structure OriginFits (o : Gl.Origin) : Prop where
  scheme : o.scheme.length ≤ maxLen
  name : o.host.name.length ≤ maxLen
  addr : o.host.addr < 4294967296
  id : -9223372036854775808 ≤ o.id ∧ o.id ≤ 9223372036854775807
  port : -9223372036854775808 ≤ o.port ∧ o.port ≤ 9223372036854775807
set_option maxRecDepth 100000 in
theorem open_origin {v : Value} {d : DataW H} {p : List MemPlace} {r : Reach} {b0 : Nat} (hval : Value.okWide Tryz.prog w r b0 35 v) (hd : DataW.Trod enc Tryz.prog w base spare held 35 v d p) :
    ∃ o : Gl.Origin, v = (Value.agg #[(Value.bool (o).opaq), (Value.int .i64 (o).id), (Value.string ⟨((o).scheme).toArray⟩), (Value.string ⟨(((o).host).name).toArray⟩), (Value.bool ((o).host).v4), (Value.int .u32 (((o).host).addr : Int)), (Value.int .i64 (o).port)]) ∧ OriginFits o := by
  unfold Value.okWide at hval
  rw [Tryz.underlying35] at hval
  obtain ⟨cs, rfl, hsz, _⟩ := hval
  obtain ⟨fuel, h⟩ := hd
  obtain ⟨xs, n, _, _, hl, hlen, hf⟩ := DataW.trod_struct Tryz.underlying35 h
  simp only [Value.cells] at hl hf
  obtain ⟨cs⟩ := cs
  simp only at hl hf
  rw [show (Tryz.prog).cellsOf 35 = 7 by kernel_rfl] at hl
  match cs, hl with
  | [c0, c1, c2, c3, c4, c5, c6], _ =>
    have f0 := hf 0 _ rfl
    have f1 := hf 1 _ rfl
    have f2 := hf 2 _ rfl
    have f3 := hf 3 _ rfl
    have f4 := hf 4 _ rfl
    simp only [show (Tryz.prog).cellsOf 9 = 1 by kernel_rfl, show (Tryz.prog).cellsOf 4 = 1 by kernel_rfl, show (Tryz.prog).cellsOf 3 = 1 by kernel_rfl, show (Tryz.prog).cellsOf 26 = 3 by kernel_rfl, List.getElem_toArray, List.getElem_cons_zero, List.getElem_cons_succ, List.drop_zero, List.drop_succ_cons, List.take_succ_cons, List.take_zero] at f0 f1 f2 f3 f4
    have g : ∀ i : Nat, i < 5 → ∃ y, xs[i]? = some y := fun i hi => ⟨xs[i]'(by rw [hlen]; exact hi), List.getElem?_eq_getElem _⟩
    obtain ⟨y0, e0⟩ := g 0 (by decide)
    obtain ⟨y1, e1⟩ := g 1 (by decide)
    obtain ⟨y2, e2⟩ := g 2 (by decide)
    obtain ⟨y3, e3⟩ := g 3 (by decide)
    obtain ⟨y4, e4⟩ := g 4 (by decide)
    obtain ⟨b, h0⟩ := trod_boo Tryz.underlying4 (f0.trans e0)
    obtain ⟨k1, h1, hk1⟩ := trod_i64 Tryz.underlying3 (f1.trans e1)
    obtain ⟨l2, h2, hs2⟩ := trod_str Tryz.underlying9 (f2.trans e2)
    obtain ⟨hst, h3, hs3, ha⟩ := open_host_cells (f3.trans e3)
    obtain ⟨k4, h4, hk4⟩ := trod_i64 Tryz.underlying3 (f4.trans e4)
    simp only [List.cons.injEq, and_true] at h0 h1 h2 h3 h4
    obtain ⟨h3a, h3b, h3c⟩ := h3
    subst h0 h1 h2 h3a h3b h3c h4
    exact ⟨{ opaq := b, id := k1, scheme := l2, host := hst, port := k4 }, rfl, hs2, hs3, ha, bounds_i64 hk1, bounds_i64 hk4⟩

set_option maxRecDepth 100000 in
theorem open_texts {v : Value} {d : DataW H} {p : List MemPlace} {r : Reach} {b0 : Nat} (hval : Value.okWide Tryz.prog w r b0 32 v) (hd : DataW.Trod enc Tryz.prog w 0 (fun _ => true) held 32 v d p) :
    ∃ S : List (List UInt8), Strs w w.heap.size v S := by
  obtain ⟨fuel, h⟩ := hd
  have hsl : ∃ A n c, v = .slice A n c := okWide_slice Tryz.underlying32 hval
  obtain ⟨A, n, c, rfl⟩ := hsl
  rcases open_strings Tryz.underlying32 Tryz.underlying9 (by kernel_rfl) h with ⟨hc, _⟩ | ⟨a, len, cap, ss, hc, _, hl, hm, hss, _, hcell, _⟩
  · simp [Value.cells] at hc
    obtain ⟨rfl, rfl, rfl⟩ := hc
    exact ⟨[], none, 0, rfl, Nat.le_refl _, Nat.zero_le _, fun h => absurd h (Nat.lt_irrefl _)⟩
  · simp [Value.cells] at hc
    obtain ⟨rfl, rfl, rfl⟩ := hc
    simp only [if_true] at hss
    have hlen : ((ss.take n).map (fun s => s.data.toList)).length = n := by simp; omega
    refine ⟨(ss.take n).map (fun s => s.data.toList), some a, c, by rw [hlen], by rw [hlen]; exact hl, hm, fun h0 => ?_⟩
    rw [hlen] at h0
    have hc0 := hcell 0 (by omega)
    obtain ⟨b, off, spot⟩ := a
    have hspot : spot = none := by simpa [Addr.add] using World.cell?_spot hc0
    subst hspot
    refine ⟨b, off, rfl, ?_, fun j hj => ?_⟩
    · have := World.block_lt_of_cell? w _ hc0
      simpa [Addr.add] using this
    · rw [hlen] at hj
      have := hcell j (by omega)
      rw [Go.WideShapes.add_plain] at this
      rw [this]
      rw [List.getD_eq_getElem?_getD, List.getElem?_eq_getElem (show j < ss.length by omega)]
      simp
end
end Go.Proofs.YtbafofldgkigmaaGreatDoor
