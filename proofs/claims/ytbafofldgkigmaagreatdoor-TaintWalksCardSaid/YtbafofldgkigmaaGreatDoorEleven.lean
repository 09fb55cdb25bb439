/- Source expressions: the plain functions of layer 11. -/
import Derived.Test.YtbafofldgkigmaaGreatDoorFour
namespace Go.Proofs.YtbafofldgkigmaaGreatDoor.Gl
structure Source where
  kind : Int := 0
  scheme : Bs := []
  host : Bs := []
  port : Int := 0
  deriving DecidableEq
/-- How many bytes at the begin are a scheme's? -/
def schLen : Bool → Bs → Nat
  | _, [] => 0
  | first, c :: r => if isLetter c || (!first && (isDigit c || ([43, 45, 46] : Bs).contains c)) then schLen false r + 1 else 0
def domain (s : Bs) : Bool := decide (s.length ≤ 253) && (split 46 s).all isLabel
def pattern (s : Bs) : Bool := s == [42] || domain (if ([42, 46] : Bs).isPrefixOf s then s.drop 2 else s)
def selfQ : Bs := [39, 115, 101, 108, 102, 39]
/-- An expression of a host; sch: its scheme. -/
def sourceHost (sch s : Bs) : Source :=
  let np := span [58] (span [47] s).1
  if pattern np.1 = false then {}
  else if np.2 = [] then { kind := 4, scheme := sch, host := np.1, port := -1 }
  else if np.2.drop 1 = [42] then { kind := 4, scheme := sch, host := np.1, port := -2 }
  else match number (np.2.drop 1) 65535 with
    | none => {}
    | some n => { kind := 4, scheme := sch, host := np.1, port := n }
def sourceOf1 (s : Bs) (n : Nat) : Source :=
  if 0 < n ∧ s.drop n = [58] then { kind := 3, scheme := s.take n }
  else if 0 < n ∧ ([58, 47, 47] : Bs).isPrefixOf (s.drop n) = true then sourceHost (s.take n) ((s.drop n).drop 3)
  else sourceHost [] s
def sourceOf (s0 : Bs) : Source :=
  if lower s0 = selfQ then { kind := 1 }
  else if lower s0 = [42] then { kind := 2 }
  else sourceOf1 (lower s0) (schLen true (lower s0))

def together (a b : Bs) : Bool := a == b || (a == http && b == https)
/-- Does a text end in another, and is it longer? -/
def endsMore (t p : Bs) : Bool := decide (p.length < t.length) && p.isSuffixOf t
def named (p t : Bs) : Bool := p == [42] || p == t || (([42] : Bs).isPrefixOf p && endsMore t (p.drop 1))
def selfM (o self : Origin) : Bool :=
  originSame o self || (!self.opaq && self.host == o.host && together self.scheme o.scheme && (o.port == self.port || (ownPort o && ownPort self)))
def fitsM (s : Source) (o self : Origin) : Bool :=
  if s.scheme ≠ [] then together s.scheme o.scheme else if self.opaq = false then together self.scheme o.scheme else (o.scheme == http || o.scheme == https)
def portM (s : Source) (o : Origin) : Bool := s.port == -2 || s.port == o.port || (s.port == -1 && ownPort o) || (s.port == 80 && o.scheme == https && o.port == 443)
def matchS (s : Source) (o self : Origin) : Bool :=
  if o.opaq then false
  else if s.kind = 2 then true
  else if s.kind = 3 then together s.scheme o.scheme
  else if s.kind = 1 then selfM o self
  else if s.kind = 4 then fitsM s o self && portM s o && named s.host (hostText o.host)
  else false
def anyS (l : List Bs) (o self : Origin) : Bool := l.any (fun s => matchS (sourceOf s) o self)
def framesS (has : Bool) (anc : List Bs) (self : Origin) (ancs : List Origin) : Bool := !has || ancs.all (fun a => anyS anc a self)

end Go.Proofs.YtbafofldgkigmaaGreatDoor.Gl
