/- Origins: the plain functions. -/
import Derived.Test.YthmgcnaoionmoaaDoorSite0
import Derived.Test.YthmgcnaoionmoaaDoorSpec
namespace Go.Proofs.YthmgcnaoionmoaaDoor.Gl
structure Origin where
  opaq : Bool := false
  id : Int := 0
  scheme : Bs := []
  host : Host := {}
  port : Int := 0
  deriving DecidableEq
def origOf (u : URL) (id : Int) : Origin :=
  if isNet u = false then { opaq := true, id := id } else { scheme := u.scheme, host := u.host, port := if u.port < 0 then own u.scheme else u.port }
def originOf (u : URL) (id : Int) : Origin := origOf (if (innerOf u).2 then (innerOf u).1 else u) id
def nullT : Bs := [110, 117, 108, 108]
/-- Has an origin its scheme's own port? -/
def ownPort (o : Origin) : Bool := (o.scheme == http && o.port == 80) || (o.scheme == https && o.port == 443)
def originText (o : Origin) : Bs :=
  if o.opaq then nullT else o.scheme ++ [58, 47, 47] ++ hostText o.host ++ (if ownPort o then [] else [58] ++ Lib.itoa o.port)
def originSame (a b : Origin) : Bool :=
  if a.opaq && b.opaq then a.id == b.id else !a.opaq && !b.opaq && a.scheme == b.scheme && a.host == b.host && a.port == b.port
def originSite (o : Origin) (S : List Bs) : Bs := if o.opaq then nullT else siteOf o.host S
def sameSite (a b : Origin) (S : List Bs) : Bool := if a.opaq || b.opaq then originSame a b else originSite a S == originSite b S
end Go.Proofs.YthmgcnaoionmoaaDoor.Gl
