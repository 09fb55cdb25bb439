/- What the functions of layers 1 to 3 compute, as plain functions on lists of bytes. No Go in it. -/
import Derived.Lib.ItoaNum
import Derived.Lib.Join
namespace Go.Proofs.YthmgcnaoionmoaaDoor.Gl

abbrev Bs := List UInt8

/-! ### Layer 1: bytes -/
def low (c : UInt8) : UInt8 := if 65 ≤ c.toNat ∧ c.toNat ≤ 90 then c + 32 else c
def lower (l : Bs) : Bs := l.map low
def isDigit (c : UInt8) : Bool := decide (48 ≤ c.toNat ∧ c.toNat ≤ 57)
def isLetter (c : UInt8) : Bool := decide (97 ≤ c.toNat ∧ c.toNat ≤ 122 ∨ 65 ≤ c.toNat ∧ c.toNat ≤ 90)
def isSmall (c : UInt8) : Bool := decide (97 ≤ c.toNat ∧ c.toNat ≤ 122 ∨ 48 ≤ c.toNat ∧ c.toNat ≤ 57 ∨ c.toNat = 45 ∨ c.toNat = 95)

/-- The parts between a byte; p is what has been gathered of the part at hand. -/
def splitGo (c : UInt8) : Bs → Bs → List Bs
  | p, [] => [p]
  | p, x :: r => if x = c then p :: splitGo c [] r else splitGo c (p ++ [x]) r
def split (c : UInt8) (l : Bs) : List Bs := splitGo c [] l

/-- The number that digits are, n having been gathered. -/
def numGo (most : Int) : Int → Bs → Option Int
  | n, [] => some n
  | n, c :: r =>
    if (c.toNat : Int) < 48 ∨ 57 < (c.toNat : Int) then none
    else if most < (c.toNat : Int) - 48 ∨ (most - ((c.toNat : Int) - 48)) / 10 < n then none
    else numGo most (10 * n + ((c.toNat : Int) - 48)) r
def number (l : Bs) (most : Int) : Option Int :=
  if l = [] ∨ (l.head? = some 48 ∧ 1 < l.length) then none else numGo most 0 l

/-! ### Layer 2: hosts -/
structure Host where
  name : Bs := []
  v4 : Bool := false
  addr : Nat := 0
  deriving DecidableEq
def isLabel (l : Bs) : Bool := decide (1 ≤ l.length ∧ l.length ≤ 63) && l.all isSmall
def addrGo : Nat → List Bs → Option Nat
  | a, [] => some a
  | a, l :: r => match number l 255 with
    | none => none
    | some n => addrGo ((a * 256 + n.toNat) % 4294967296) r
def host3 (L : List Bs) : Host × Int :=
  match addrGo 0 L with
  | none => ({}, 20)
  | some a => ({ v4 := true, addr := a }, 0)
def host2 (s : Bs) (L : List Bs) : Host × Int :=
  if !(L.getLast?.getD []).all isDigit then ({ name := s }, 0)
  else if L.length ≠ 4 then ({}, 20)
  else host3 L
def host1 (s : Bs) (L : List Bs) : Host × Int := if !L.all isLabel then ({}, 20) else host2 s L
def hostOf (s : Bs) : Host × Int := if s.length < 1 ∨ 253 < s.length then ({}, 20) else host1 s (split 46 s)
def hostParse (s : Bs) : Host × Int := hostOf (lower s)

/-- The i-th of an address's four numbers, as a text. -/
def four (a i : Nat) : Bs := Lib.itoa ((a / 2 ^ (24 - 8 * i) % 256 : Nat) : Int)
def hostText (h : Host) : Bs := if h.v4 then four h.addr 0 ++ [46] ++ four h.addr 1 ++ [46] ++ four h.addr 2 ++ [46] ++ four h.addr 3 else h.name

/-! ### Layer 3: URLs -/
def blank (c : UInt8) : Bool := decide (c.toNat ≤ 32)
def trimL (l : Bs) : Bs := l.dropWhile blank
def trimR (l : Bs) : Bs := (l.reverse.dropWhile blank).reverse
def trim (l : Bs) : Bs := trimR (trimL l)
/-- What stands ahead of the first byte of some, and from that on. -/
def span (of l : Bs) : Bs × Bs := (l.takeWhile (fun c => !of.contains c), l.dropWhile (fun c => !of.contains c))
/-- May the bytes be those of a scheme? ('first': are they at its begin?) -/
def schemeGo : Bool → Bs → Bool
  | _, [] => true
  | first, c :: r => (isLetter c || (!first && (isDigit c || [43, 45, 46].contains c))) && schemeGo false r
def scheme (l : Bs) : Bool := !l.isEmpty && schemeGo true l
structure URL where
  scheme : Bs := []
  host : Host := {}
  port : Int := 0
  path : Bs := []
  hasQuery : Bool := false
  query : Bs := []
  rest : Bs := []
  deriving DecidableEq
def http : Bs := [104, 116, 116, 112]
def https : Bs := [104, 116, 116, 112, 115]
def own (s : Bs) : Int := if s = https then 443 else 80
def isNet (u : URL) : Bool := u.scheme == http || u.scheme == https

/-- The parts of a path without points; 'out': those that are kept so far. -/
def cleanGo : List Bs → List Bs → List Bs
  | out, [] => out
  | out, p :: r =>
    if p = [46, 46] then (if r = [] then out.dropLast ++ [[]] else cleanGo out.dropLast r)
    else if p = [46] then (if r = [] then out ++ [[]] else cleanGo out r)
    else cleanGo (out ++ [p]) r
def slashed (l : List Bs) : Bs := l.flatMap (47 :: ·)
/-- A path (none, or one that begins with a stroke) without points. -/
def clean (path : Bs) : Bs := slashed (cleanGo [] (split 47 (path.drop 1)))

/-- A URL of http or https: u bears its scheme; 'rest' is what stands behind the colon. -/
def web (u : URL) (rest : Bs) : URL × Int :=
  if !([47, 47] : Bs).isPrefixOf rest then ({}, 30)
  else
    let ab := span [47, 63] (rest.drop 2)
    if ab.1.contains 64 then ({}, 30)
    else
      let np := span [58] ab.1
      let h := hostParse np.1
      if h.2 ≠ 0 then ({}, h.2)
      else
        let pq := span [63] ab.2
        let done (port : Int) : URL × Int := ({ u with host := h.1, port := port, path := clean pq.1, hasQuery := !pq.2.isEmpty, query := pq.2.drop 1 }, 0)
        if 1 < np.2.length then
          match number (np.2.drop 1) 65535 with
          | none => ({}, 32)
          | some n => done (if n = own u.scheme then u.port else n)
        else done u.port

def urlText (u : URL) : Bs :=
  if isNet u = false then u.scheme ++ [58] ++ u.rest
  else u.scheme ++ [58, 47, 47] ++ hostText u.host ++ (if 0 ≤ u.port then [58] ++ Lib.itoa u.port else []) ++ u.path ++ (if u.hasQuery then [63] ++ u.query else [])

def about : Bs := [97, 98, 111, 117, 116]
def data : Bs := [100, 97, 116, 97]
def blob : Bs := [98, 108, 111, 98]
def bblank : Bs := [98, 108, 97, 110, 107]
def srcdoc : Bs := [115, 114, 99, 100, 111, 99]
def nullS : Bs := [110, 117, 108, 108, 47]
/-- The URL that a text is; 'inner': is what a blob holds a URL of http or https? -/
def core (inner : Bs → Bool) (s0 : Bs) : URL × Int :=
  let s := trim s0
  if 2000 < s.length then ({}, 30)
  else
    let fr := span [58] s
    let u : URL := { scheme := lower fr.1, port := -1 }
    if fr.2 = [] ∨ scheme u.scheme = false then ({}, 30)
    else if !isNet u && u.scheme != about && u.scheme != data && u.scheme != blob then ({}, 31)
    else
      let rest := (span [35] (fr.2.drop 1)).1
      if rest.any (fun c => decide (c.toNat < 33 ∨ 126 < c.toNat)) then ({}, 30)
      else if isNet u then web u rest
      else if u.scheme = about ∧ rest ≠ bblank ∧ rest ≠ srcdoc then ({}, 30)
      else if u.scheme = blob ∧ !nullS.isPrefixOf rest ∧ !inner rest then ({}, 30)
      else ({ u with rest := rest }, 0)
/-- Is a text a URL of http or https? -/
def netText (s : Bs) : Bool := (core (fun _ => false) s).2 == 0 && isNet (core (fun _ => false) s).1
def parse (s : Bs) : URL × Int := core netText s
def innerOf (u : URL) : URL × Bool :=
  if u.scheme ≠ blob then ({}, false)
  else if (parse u.rest).2 ≠ 0 ∨ isNet (parse u.rest).1 = false then ({}, false)
  else ((parse u.rest).1, true)

end Go.Proofs.YthmgcnaoionmoaaDoor.Gl
