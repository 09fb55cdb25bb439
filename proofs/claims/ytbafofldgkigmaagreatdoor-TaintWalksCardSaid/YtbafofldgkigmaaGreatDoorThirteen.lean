/- What comes of a request: plainly. -/
import Derived.Test.YtbafofldgkigmaaGreatDoorHeadVals
import Derived.Test.YtbafofldgkigmaaGreatDoorHop
import Derived.Test.YtbafofldgkigmaaGreatDoorPlain14
namespace Go.Proofs.YtbafofldgkigmaaGreatDoor
def acoT : List UInt8 := [97, 99, 99, 101, 115, 115, 45, 99, 111, 110, 116, 114, 111, 108, 45, 97, 108, 108, 111, 119, 45, 111, 114, 105, 103, 105, 110]
def accT : List UInt8 := [97, 99, 99, 101, 115, 115, 45, 99, 111, 110, 116, 114, 111, 108, 45, 97, 108, 108, 111, 119, 45, 99, 114, 101, 100, 101, 110, 116, 105, 97, 108, 115]
def trueT : List UInt8 := [116, 114, 117, 101]
/-- Does a head share a response with a text? -/
def Gl.shared (L : List Gl.Head) (t : List UInt8) (inc : Bool) : Bool :=
  if 0 < (Gl.values L acoT).length then
    (if inc then (Gl.combined L acoT == t) && (Gl.combined L accT == trueT) else (Gl.combined L acoT == [42]) || (Gl.combined L acoT == t))
  else false
/-- Is a hop own? -/
def Gl.ownH (o : Gl.Origin) (u : Gl.URL) : Bool := !(Gl.originOf u 0).opaq && Gl.originSame (Gl.originOf u 0) o
def hopAt (L : List Gl.Hop) (i : Nat) : Gl.Hop := L.getD i ⟨{}, .bool false, []⟩
theorem hopAt_lt {L : List Gl.Hop} {i : Nat} (h : i < L.length) : hopAt L i = L[i] := by
  unfold hopAt
  rw [List.getD_eq_getElem?_getD, List.getElem?_eq_getElem h]
  rfl
def uAt (L : List Gl.Hop) (i : Nat) : Gl.URL := (hopAt L i).url
/-- Is one of the first k hops not own? -/
def Gl.foreignK (o : Gl.Origin) (L : List Gl.Hop) : Nat → Bool
  | 0 => false
  | k + 1 => Gl.foreignK o L k || !Gl.ownH o (uAt L k)
/-- Is the origin null, k hops on? -/
def Gl.nullK (o : Gl.Origin) (L : List Gl.Hop) : Nat → Bool
  | 0 => false
  | k + 1 => Gl.nullK o L k || (decide (0 < k) && (!Gl.ownH o (uAt L (k - 1)) && !Gl.originSame (Gl.originOf (uAt L (k - 1)) 0) (Gl.originOf (uAt L k) 0)))
def Gl.textK (o : Gl.Origin) (L : List Gl.Hop) (k : Nat) : List UInt8 := if Gl.nullK o L (k + 1) then Gl.nullT else Gl.originText o
/-- Is hop k asked, and does it not share? -/
def Gl.badK (c : Int) (o : Gl.Origin) (L : List Gl.Hop) (k : Nat) : Bool := Gl.foreignK o L (k + 1) && !Gl.shared (hopAt L k).head (Gl.textK o L k) (c == 2)
def Gl.anyBad (c : Int) (o : Gl.Origin) (L : List Gl.Hop) (n : Nat) : Bool := (List.range n).any (Gl.badK c o L)
theorem anyBad_succ (c : Int) (o : Gl.Origin) (L : List Gl.Hop) (n : Nat) : Gl.anyBad c o L (n + 1) = (Gl.anyBad c o L n || Gl.badK c o L n) := by
  unfold Gl.anyBad
  rw [List.range_succ, List.any_append]
  simp
theorem anyBad_mono {c : Int} {o : Gl.Origin} {L : List Gl.Hop} {a b : Nat} (h : a ≤ b) (ha : Gl.anyBad c o L a = true) : Gl.anyBad c o L b = true := by
  unfold Gl.anyBad at *
  rw [List.any_eq_true] at *
  obtain ⟨x, hx, h2⟩ := ha
  exact ⟨x, by rw [List.mem_range] at *; omega, h2⟩
structure Gl.Got where
  taint : Int := 0
  creds : Bool := false
  null : Bool := false
  deriving DecidableEq
/-- What comes of hops that may be. -/
def Gl.gotOf (m c cp : Int) (o : Gl.Origin) (L : List Gl.Hop) : Gl.Got :=
  let n := L.length
  let other := Gl.foreignK o L n
  let own := Gl.ownH o (uAt L (n - 1))
  { null := Gl.nullK o L n
    taint := if m = 2 then (if other then 3 else 1) else if m = 3 then (if other then 2 else 1) else 1
    creds := if m = 1 then true else if m = 2 then ((c == 2) || ((c == 1) && own)) && !((cp == 1) && other) else (c == 2) || ((c == 1) && !other) }
def Gl.mayH (L : List Gl.Hop) : Bool := decide (1 ≤ L.length) && decide (L.length ≤ 21) && (decide (L.length = 1) || L.all (fun h => Gl.isNet h.url))
/-- What comes of a request. -/
def Gl.walk (m c cp : Int) (o : Gl.Origin) (L : List Gl.Hop) : Gl.Got × Int :=
  if m < 1 ∨ 3 < m then ({}, 1)
  else if Gl.mayH L = false then ({}, 130)
  else if Gl.isNet (uAt L 0) = false then ({ taint := 1 }, 0)
  else if m = 3 ∧ Gl.anyBad c o L L.length = true then ({}, 131)
  else (Gl.gotOf m c cp o L, 0)
abbrev gotV (g : Gl.Got) : Value := .agg #[.int .i64 g.taint, .bool g.creds, .bool g.null]
end Go.Proofs.YtbafofldgkigmaaGreatDoor
