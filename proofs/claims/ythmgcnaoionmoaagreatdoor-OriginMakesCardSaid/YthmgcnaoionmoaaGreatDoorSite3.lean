/- glacisref02.Site. -/
import Derived.Test.YthmgcnaoionmoaaGreatDoorSite2
import Derived.Test.YthmgcnaoionmoaaGreatDoorSplit
namespace Go.Proofs.YthmgcnaoionmoaaGreatDoor
open Go.RowKit
attribute [local irreducible] Calls
theorem join_cons (a : List UInt8) (r : List (List UInt8)) : Lib.join (a :: r) [46] = a ++ r.flatMap (46 :: ·) := by
  induction r generalizing a with
  | nil => simp [Lib.join, List.intercalate]
  | cons b s ih =>
    have := ih b
    simp [Lib.join, List.intercalate] at this ⊢
    exact this
end Go.Proofs.YthmgcnaoionmoaaGreatDoor
