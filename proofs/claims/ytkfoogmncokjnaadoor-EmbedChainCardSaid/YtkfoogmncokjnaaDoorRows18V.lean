/- Rows of integers, read as data. -/
import Derived.Test.YtkfoogmncokjnaaDoorRows18
namespace Go.Proofs.YtkfoogmncokjnaaDoor
open Go.ChangeShapes Go.WideShapes Go.ChangeAt Go.RowKit Go.Deep
section
variable {H : Type} {enc : TypeId × Value → H} {w : World} {base : Nat} {spare : Nat → Bool} {held : Bool}
set_option maxRecDepth 100000 in
theorem open_ints {v : Value} {d : DataW H} {p : List MemPlace} {r : Reach} {b0 : Nat} (hval : Value.okWide Tryd.prog w r b0 23 v) (hd : DataW.Trod enc Tryd.prog w 0 (fun _ => true) held 23 v d p) :
    ∃ L : List Int, Ints w v L := by
  obtain ⟨fuel, h⟩ := hd
  obtain ⟨A, n, c, rfl⟩ := okWide_slice Tryd.underlying23 hval
  obtain ⟨L, hL, hl, hQ⟩ := open_slotsB (Q := fun cs _ => ∃ o : Int, cs = (#[Value.int .i64 o] : Array Value).toList) Tryd.underlying23 (show (Tryd.prog).cellsOf 3 = 1 by kernel_rfl) (by decide) (fun _ _ _ h => by obtain ⟨n, h1, _⟩ := trod_i64 Tryd.underlying3 h; exact ⟨n, h1⟩) h
  obtain ⟨As, rfl, hA⟩ := list_of (f := fun x : Int => #[Value.int .i64 x]) (Q := fun _ => True) L (fun c hc => by obtain ⟨⟨k, _, o, h⟩, _⟩ := hQ c hc; exact ⟨o, h, trivial⟩)
  exact ⟨As, hL⟩
end
end Go.Proofs.YtkfoogmncokjnaaDoor
