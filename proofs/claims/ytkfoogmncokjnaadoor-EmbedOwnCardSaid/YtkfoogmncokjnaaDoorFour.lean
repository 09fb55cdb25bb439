/- '==' on URLs. Rows of texts held against one another: slices.Equal, glacisref01.Texts. Sites of hosts: the plain functions; the reference's 'ends'. host.Site's 'try': one suffix. host.Site. glacisref02.Site. Origins: the plain functions. origin.own: a map that the call makes, of two texts; and what is looked up in it. '==' on origins. Origins: are two the same, and of one site? Of the program and of the reference. Sites of origins: of the program and of the reference. -/
import Derived.Test.YtkfoogmncokjnaaDoorOne
import Derived.Laws.StructEq
import Derived.Test.YtkfoogmncokjnaaDoorTwo
import Derived.Deep.RegionHeld3
import Derived.Test.YtkfoogmncokjnaaDoorThree
namespace Go.Proofs.YtkfoogmncokjnaaDoor
open Go.RowKit
theorem beq_mk (a b : List UInt8) : ((⟨a.toArray⟩ : ByteArray).toList == (⟨b.toArray⟩ : ByteArray).toList) = (a == b) := by
  rw [ByteArray.toList_eq, ByteArray.toList_eq]
section
variable (w : World) (a1 b1 f1 h1 i1 a2 b2 f2 h2 i2 : List UInt8) (c1 c2 g1 g2 : Bool) (d1 d2 e1 e2 : Int)
set_option maxHeartbeats 2000000 in
theorem run_eq_url : (Op.equalIn 10000 53 (.agg #[(.string ⟨(a1).toArray⟩), (.string ⟨(b1).toArray⟩), .bool c1, .int .u32 d1, .int .i64 e1, (.string ⟨(f1).toArray⟩), .bool g1, (.string ⟨(h1).toArray⟩), (.string ⟨(i1).toArray⟩)]) (.agg #[(.string ⟨(a2).toArray⟩), (.string ⟨(b2).toArray⟩), .bool c2, .int .u32 d2, .int .i64 e2, (.string ⟨(f2).toArray⟩), .bool g2, (.string ⟨(h2).toArray⟩), (.string ⟨(i2).toArray⟩)])).run Tryd.prog w = .ok ((a1 == a2) && (b1 == b2) && (c1 == c2) && (d1 == d2) && (e1 == e2) && (f1 == f2) && (g1 == g2) && (h1 == h2) && (i1 == i2)) w := by
  rw [show (10000 : Nat) = 9999 + 1 from rfl, run_equalIn_agg w 9999 53 _ _ (by kernel_rfl) (by kernel_rfl)]
  simp only [Program.fieldsOf, Tryd.underlying53]
  have hh : ∀ (x y : Array Value), (Op.equalIn 9999 32 (.agg x) (.agg y)).run Tryd.prog w = (Op.eqFields 9998 x y ((Tryd.prog).fieldsOf 32).toList).run Tryd.prog w := fun x y => run_equalIn_agg w 9998 32 x y (by kernel_rfl) (by kernel_rfl)
  go_simp
  by_cases q1 : a1 = a2
  case neg => simp [q1]
  by_cases q2 : b1 = b2
  case neg => simp [q2]
  by_cases q3 : c1 = c2
  case neg => simp [q3]
  by_cases q4 : d1 = d2
  case neg => simp [q4]
  by_cases q5 : e1 = e2
  case neg => simp [q5]
  by_cases q6 : f1 = f2
  case neg => simp [q6]
  by_cases q7 : g1 = g2
  case neg => simp [q7]
  by_cases q8 : h1 = h2
  case neg => simp [q8]
  by_cases q9 : i1 = i2 <;> simp [q1, q2, q3, q4, q5, q6, q7, q8, q9]
@[go_sem] theorem run_eql_url : (binOp .eql 53 (.agg #[(.string ⟨(a1).toArray⟩), (.string ⟨(b1).toArray⟩), .bool c1, .int .u32 d1, .int .i64 e1, (.string ⟨(f1).toArray⟩), .bool g1, (.string ⟨(h1).toArray⟩), (.string ⟨(i1).toArray⟩)]) (.agg #[(.string ⟨(a2).toArray⟩), (.string ⟨(b2).toArray⟩), .bool c2, .int .u32 d2, .int .i64 e2, (.string ⟨(f2).toArray⟩), .bool g2, (.string ⟨(h2).toArray⟩), (.string ⟨(i2).toArray⟩)])).run Tryd.prog w = .ok (.bool ((a1 == a2) && (b1 == b2) && (c1 == c2) && (d1 == d2) && (e1 == e2) && (f1 == f2) && (g1 == g2) && (h1 == h2) && (i1 == i2))) w := by
  rw [run_eql_struct, run_eq_url]; rfl
@[go_sem] theorem run_neq_url : (binOp .neq 53 (.agg #[(.string ⟨(a1).toArray⟩), (.string ⟨(b1).toArray⟩), .bool c1, .int .u32 d1, .int .i64 e1, (.string ⟨(f1).toArray⟩), .bool g1, (.string ⟨(h1).toArray⟩), (.string ⟨(i1).toArray⟩)]) (.agg #[(.string ⟨(a2).toArray⟩), (.string ⟨(b2).toArray⟩), .bool c2, .int .u32 d2, .int .i64 e2, (.string ⟨(f2).toArray⟩), .bool g2, (.string ⟨(h2).toArray⟩), (.string ⟨(i2).toArray⟩)])).run Tryd.prog w = .ok (.bool (!((a1 == a2) && (b1 == b2) && (c1 == c2) && (d1 == d2) && (e1 == e2) && (f1 == f2) && (g1 == g2) && (h1 == h2) && (i1 == i2)))) w := by
  rw [run_neq_struct, run_eq_url]; rfl
@[go_sem] theorem run_guard_url (op : BinOp) (x y : Operand) (xs ys : Array Value) : (eqGuard op 53 x y (.agg xs) (.agg ys)).run Tryd.prog w = .ok () w := run_eqGuard_agg w op 53 x y xs ys (by kernel_rfl)
end
end Go.Proofs.YtkfoogmncokjnaaDoor
namespace Go.Proofs.YtkfoogmncokjnaaDoor
open Go.RowKit
attribute [local irreducible] Calls
theorem Strs.cells {w : World} {B : Nat} {v : Value} {L : List (List UInt8)} (h : Strs w B v L) (k : Nat) (hk : k < L.length) : ∃ b o c, v = .slice (some ⟨b, o, none⟩) L.length c ∧ b < B ∧ ∀ j, (h : j < L.length) → w.cell? ⟨b, o + j, none⟩ = some (.string ⟨(L[j]).toArray⟩) := by
  obtain ⟨A, c, rfl, _, _, h3⟩ := h
  obtain ⟨b, o, rfl, hB, hc⟩ := h3 (by omega)
  exact ⟨b, o, c, rfl, hB, hc⟩
theorem drop_eq {L M : List (List UInt8)} {k : Nat} (h1 : k < L.length) (h2 : k < M.length) : (L.drop k = M.drop k) ↔ (L[k] = M[k] ∧ L.drop (k + 1) = M.drop (k + 1)) := by
  rw [drop_consL h1, drop_consL h2, List.cons.injEq]

end Go.Proofs.YtkfoogmncokjnaaDoor
namespace Go.Proofs.YtkfoogmncokjnaaDoor
open Go.RowKit
namespace Gl
/-- Does a row of texts end in another? -/
def endsIn (l p : List Bs) : Bool := decide (p.length ≤ l.length) && (l.drop (l.length - p.length) == p)
/-- The length of the longest suffix that a name ends in, b being the longest so far. -/
def best (l : List Bs) : Nat → List Bs → Nat
  | b, [] => b
  | b, s :: r => best l (if endsIn l (split 46 s) then max b (split 46 s).length else b) r
def siteParts (l : List Bs) (b : Nat) : List Bs := l.drop (l.length - max b 1 - 1)
def siteOf (h : Host) (suf : List Bs) : Bs := if h.v4 then hostText h else Lib.join (siteParts (split 46 h.name) (best (split 46 h.name) 0 suf)) [46]
end Gl
theorem endsIn_len {l p : List Gl.Bs} (h : Gl.endsIn l p = true) : p.length ≤ l.length := by
  unfold Gl.endsIn at h; simp at h; exact h.1
theorem best_le (l : List Gl.Bs) (S : List Gl.Bs) : ∀ b, b ≤ l.length → Gl.best l b S ≤ l.length := by
  induction S with
  | nil => intro b h; exact h
  | cons s r ih =>
    intro b h
    unfold Gl.best
    apply ih
    split
    · rename_i he; have := endsIn_len he; omega
    · exact h
theorem Strs.tail {w : World} {B b o n c : Nat} {L : List (List UInt8)} (h : Strs w B (.slice (some ⟨b, o, none⟩) n c) L) (k : Nat) (hk : k < L.length) : Strs w B (.slice (some ⟨b, o + k, none⟩) (L.length - k) (c - k)) (L.drop k) := by
  obtain ⟨A, c', he, h1, h2, h3⟩ := h
  injection he with he1 he2 he3
  subst he1 he2 he3
  obtain ⟨b', o', hA, hB, hc⟩ := h3 (by omega)
  injection hA with hA
  injection hA with e1 e2
  subst e1 e2
  refine ⟨_, c - k, by rw [List.length_drop], by rw [List.length_drop]; omega, by omega, fun _ => ⟨b, o + k, rfl, hB, fun j hj => ?_⟩⟩
  rw [List.length_drop] at hj
  have := hc (k + j) (by omega)
  rw [List.getElem_drop, Nat.add_assoc]
  exact this
attribute [local irreducible] Calls
end Go.Proofs.YtkfoogmncokjnaaDoor
namespace Go.Proofs.YtkfoogmncokjnaaDoor
open Go.RowKit
attribute [local irreducible] Calls
/-- Behind a call of 'try': below the block gb nothing has turned, and that holds the longest so far. -/
structure SiteInv (wA : World) (gb b : Nat) (w : World) : Prop where
  below : Below gb wA w
  lt : gb < w.heap.size
  cell : w.cell? ⟨gb, 0, none⟩ = some (.int .i64 (b : Int))
  free : w.frozen? ⟨gb, 0, none⟩ = false
theorem SiteInv.more {wA : World} {gb b : Nat} {w w' : World} (h : SiteInv wA gb b w) (hb : Below w.heap.size w w') : SiteInv wA gb b w' :=
  ⟨h.below.trans (hb.mono (Nat.le_of_lt h.lt)), Nat.lt_of_lt_of_le h.lt hb.size, (hb.cell (p := ⟨gb, 0, none⟩) h.lt).trans h.cell, (hb.frozen (p := ⟨gb, 0, none⟩) h.lt).trans h.free⟩
theorem SiteInv.set {wA : World} {gb b : Nat} {w : World} (h : SiteInv wA gb b w) (b' : Nat) : SiteInv wA gb b' (w.setCell ⟨gb, 0, none⟩ (.int .i64 (b' : Int))) :=
  ⟨h.below.setCell (Nat.le_refl _) _, by simpa using h.lt, World.cell?_setCell_same' _ _ _ (by rw [h.cell]; rfl), by rw [World.frozen?_setCell]; exact h.free⟩
end Go.Proofs.YtkfoogmncokjnaaDoor
namespace Go.Proofs.YtkfoogmncokjnaaDoor
open Go.RowKit
attribute [local irreducible] Calls
theorem join_len (L : List (List UInt8)) (c : UInt8) : (Lib.join L [c]).length ≤ (Gl.slashed L).length := by
  have : ∀ (L : List (List UInt8)), (Lib.join L [c]).length + 1 ≤ (Gl.slashed L).length ∨ L = [] := by
    intro L
    induction L with
    | nil => exact Or.inr rfl
    | cons a r ih =>
      left
      cases r with
      | nil => simp [Lib.join, Gl.slashed, List.intercalate]
      | cons b s =>
        rcases ih with ih | ih
        · rw [slashed_cons]
          simp [Lib.join, List.intercalate] at ih ⊢
          omega
        · cases ih
  rcases this L with h | rfl
  · omega
  · simp [Lib.join, List.intercalate]
theorem slashed_drop (L : List (List UInt8)) (k : Nat) : (Gl.slashed (L.drop k)).length ≤ (Gl.slashed L).length := by
  conv => rhs; rw [← List.take_append_drop k L]
  rw [slashed_append]
  simp
end Go.Proofs.YtkfoogmncokjnaaDoor
namespace Go.Proofs.YtkfoogmncokjnaaDoor
open Go.RowKit
attribute [local irreducible] Calls
theorem join_cons (a : List UInt8) (r : List (List UInt8)) : Lib.join (a :: r) [46] = a ++ r.flatMap (46 :: ·) := by
  induction r generalizing a with
  | nil => simp [Lib.join, List.intercalate]
  | cons b s ih =>
    have := ih b
    simp [Lib.join, List.intercalate] at this ⊢
    exact this
end Go.Proofs.YtkfoogmncokjnaaDoor
namespace Go.Proofs.YtkfoogmncokjnaaDoor.Gl
structure Origin where
  opaq : Bool := false
  id : Int := 0
  scheme : Bs := []
  host : Host := {}
  port : Int := 0
  deriving DecidableEq
def origOf (u : URL) (id : Int) : Origin :=
  if isNet u = false then { opaq := true, id := id } else { scheme := u.scheme, host := u.host, port := if u.port < 0 then own u.scheme else u.port }
def originOf (u : URL) (id : Int) : Origin := origOf (if (innerOf u).2 then (innerOf u).1 else u) id
def nullT : Bs := [110, 117, 108, 108]
/-- Has an origin its scheme's own port? -/
def ownPort (o : Origin) : Bool := (o.scheme == http && o.port == 80) || (o.scheme == https && o.port == 443)
def originText (o : Origin) : Bs :=
  if o.opaq then nullT else o.scheme ++ [58, 47, 47] ++ hostText o.host ++ (if ownPort o then [] else [58] ++ Lib.itoa o.port)
def originSame (a b : Origin) : Bool :=
  if a.opaq && b.opaq then a.id == b.id else !a.opaq && !b.opaq && a.scheme == b.scheme && a.host == b.host && a.port == b.port
def originSite (o : Origin) (S : List Bs) : Bs := if o.opaq then nullT else siteOf o.host S
def sameSite (a b : Origin) (S : List Bs) : Bool := if a.opaq || b.opaq then originSame a b else originSite a S == originSite b S
end Go.Proofs.YtkfoogmncokjnaaDoor.Gl
namespace Go.Proofs.YtkfoogmncokjnaaDoor
open Go.RowKit
theorem run_get1 {P : Program} (w : World) (mty kt et : TypeId) (r : Nat) (s : ByteArray) (es : Array MapEntry) (clock : Nat) (z : Value) (res : Option (Nat × Value)) (hm : P.underlying mty = some (.map kt et)) (hk : P.underlying kt = some .string)
    (hz : (zeroValue et).run P w = .ok z w) (hb : w.heap[r]? = some (.map es clock)) (hf : Instr.findNow .string (.string s) es.toList 0 = some res) :
    (Instr.lookup mty (.map (some r)) (.string s) false).run P w = .ok ((res.map (·.2)).getD z) w := by
  have hc : ∀ b, (Instr.checkKey b 10000 kt (.string s)).run P w = .ok () w := fun b => MapKept.run_checkKey (k := .string s) hk (by simp [MapKept.IsKey]) b 9999
  cases res with
  | none => simp [Instr.lookup, run_underlying hm, MapKept.run_getObj_map hb, hc, MapKept.run_findKey hk hf, hz, Result.andThen]
  | some x => simp [Instr.lookup, run_underlying hm, MapKept.run_getObj_map hb, hc, MapKept.run_findKey hk hf, Result.andThen]
def ownMap : Array MapEntry := #[{ key := .string ⟨#[104, 116, 116, 112]⟩, val := .int .i64 80, born := 0 }, { key := .string ⟨#[104, 116, 116, 112, 115]⟩, val := .int .i64 443, born := 1 }]
set_option maxRecDepth 100000 in
theorem origin_own (w : World) : Calls Tryd.prog 29 #[] w (fun e w' => e = .returned (.map (some w.heap.size)) ∧ w' = w.alloc (.map ownMap 2)) := by
  have hmm := @run_makeMap Tryd.prog
  have p1 : (Instr.mapUpdate 64 (.map (some w.heap.size)) (.string ⟨#[104, 116, 116, 112]⟩) (.int .i64 80)).run Tryd.prog (w.alloc (.map (#[] : Array MapEntry) 0)) = .ok () (w.alloc (.map (#[{ key := .string ⟨#[104, 116, 116, 112]⟩, val := .int .i64 80, born := 0 }] : Array MapEntry) 1)) :=
    run_put (P := Tryd.prog) w 64 9 3 _ _ (#[] : Array MapEntry) 0 Tryd.underlying64 Tryd.underlying9 (by kernel_rfl)
  have p2 : (Instr.mapUpdate 64 (.map (some w.heap.size)) (.string ⟨#[104, 116, 116, 112, 115]⟩) (.int .i64 443)).run Tryd.prog (w.alloc (.map (#[{ key := .string ⟨#[104, 116, 116, 112]⟩, val := .int .i64 80, born := 0 }] : Array MapEntry) 1)) = .ok () (w.alloc (.map ownMap 2)) :=
    run_put (P := Tryd.prog) w 64 9 3 _ _ (#[{ key := .string ⟨#[104, 116, 116, 112]⟩, val := .int .i64 80, born := 0 }] : Array MapEntry) 1 Tryd.underlying64 Tryd.underlying9 (by kernel_rfl)
  go_enter Tryd.func29, Tryd.ntmps29
  go_wp2
  go_ret
  exact ⟨rfl, rfl⟩
/-- The own port of a scheme, 0 where it has none; has it one? -/
def ownOf (s : List UInt8) : Int := if s = Gl.http then 80 else if s = Gl.https then 443 else 0
def hasOwn (s : List UInt8) : Bool := s == Gl.http || s == Gl.https
theorem find_own (s : List UInt8) : ∃ res, Instr.findNow .string (.string ⟨s.toArray⟩) ownMap.toList 0 = some res ∧ (res.map (·.2)).getD (.int .i64 0) = .int .i64 (ownOf s) ∧ res.isSome = hasOwn s := by
  have hstep : ∀ (k : List UInt8) (v : Value) (b : Nat) (es : List MapEntry) (i : Nat), Instr.findNow .string (.string ⟨s.toArray⟩) ({ key := .string ⟨k.toArray⟩, val := v, born := b } :: es) i = if s = k then some (some (i, v)) else Instr.findNow .string (.string ⟨s.toArray⟩) es (i + 1) := by
    intro k v b es i
    conv => lhs; unfold Instr.findNow
    simp only [Instr.sameNow, string_beq]
    by_cases h : s = k
    · rw [if_pos h, beq_iff_eq.2 h]
    · rw [if_neg h, beq_eq_false_iff_ne.2 h]
  show ∃ res, Instr.findNow .string (.string ⟨s.toArray⟩) [{ key := .string ⟨Gl.http.toArray⟩, val := .int .i64 80, born := 0 }, { key := .string ⟨Gl.https.toArray⟩, val := .int .i64 443, born := 1 }] 0 = some res ∧ _
  simp only [hstep]
  have hnil : ∀ i, Instr.findNow .string (.string ⟨s.toArray⟩) [] i = some none := fun _ => rfl
  rw [hnil]
  by_cases h1 : s = Gl.http
  · exact ⟨_, if_pos h1, by subst h1; rfl, by subst h1; rfl⟩
  by_cases h2 : s = Gl.https
  · exact ⟨_, by rw [if_neg h1, if_pos h2], by subst h2; rfl, by subst h2; rfl⟩
  · refine ⟨_, by rw [if_neg h1, if_neg h2], ?_, ?_⟩
    · simp [ownOf, h1, h2]
    · simp [hasOwn, h1, h2]
theorem look_own (s : List UInt8) (W : World) (r : Nat) (h : W.heap[r]? = some (.map ownMap 2)) :
    (Instr.lookup 64 (.map (some r)) (.string ⟨s.toArray⟩) true).run Tryd.prog W = .ok (.tuple #[.int .i64 (ownOf s), .bool (hasOwn s)]) W := by
  obtain ⟨res, h1, h2, h3⟩ := find_own s
  rw [run_get (P := Tryd.prog) W 64 9 3 r _ _ _ (.int .i64 0) res Tryd.underlying64 Tryd.underlying9 (by kernel_rfl) h h1, h2, h3]
theorem look_own1 (s : List UInt8) (W : World) (r : Nat) (h : W.heap[r]? = some (.map ownMap 2)) :
    (Instr.lookup 64 (.map (some r)) (.string ⟨s.toArray⟩) false).run Tryd.prog W = .ok (.int .i64 (ownOf s)) W := by
  obtain ⟨res, h1, h2, _⟩ := find_own s
  rw [run_get1 (P := Tryd.prog) W 64 9 3 r _ _ _ (.int .i64 0) res Tryd.underlying64 Tryd.underlying9 (by kernel_rfl) h h1, h2]
theorem origin_own_at (w : World) : Calls Tryd.prog 29 #[] w (fun e w' => (e = .returned (.map (some w.heap.size)) ∧ Below w.heap.size w w') ∧ w'.heap[w.heap.size]? = some (.map ownMap 2)) :=
  (origin_own w).mono fun _ _ ⟨he, hw⟩ => ⟨⟨he, hw ▸ Below.alloc (Below.refl _ _) (Nat.le_refl _) _⟩, hw ▸ heap_alloc_new w _⟩
end Go.Proofs.YtkfoogmncokjnaaDoor
namespace Go.Proofs.YtkfoogmncokjnaaDoor
open Go.RowKit
section
variable (w : World) (a1 a2 e1 e2 : Bool) (b1 b2 f1 f2 g1 g2 : Int) (c1 c2 d1 d2 : List UInt8)
set_option maxHeartbeats 2000000 in
theorem run_eq_origin : (Op.equalIn 10000 34 (.agg #[.bool a1, .int .i64 b1, (.string ⟨(c1).toArray⟩), (.string ⟨(d1).toArray⟩), .bool e1, .int .u32 f1, .int .i64 g1]) (.agg #[.bool a2, .int .i64 b2, (.string ⟨(c2).toArray⟩), (.string ⟨(d2).toArray⟩), .bool e2, .int .u32 f2, .int .i64 g2])).run Tryd.prog w = .ok ((a1 == a2) && (b1 == b2) && (c1 == c2) && (d1 == d2) && (e1 == e2) && (f1 == f2) && (g1 == g2)) w := by
  rw [show (10000 : Nat) = 9999 + 1 from rfl, run_equalIn_agg w 9999 34 _ _ (by kernel_rfl) (by kernel_rfl)]
  simp only [Program.fieldsOf, Tryd.underlying34]
  have hh : ∀ (x y : Array Value), (Op.equalIn 9999 32 (.agg x) (.agg y)).run Tryd.prog w = (Op.eqFields 9998 x y ((Tryd.prog).fieldsOf 32).toList).run Tryd.prog w := fun x y => run_equalIn_agg w 9998 32 x y (by kernel_rfl) (by kernel_rfl)
  go_simp
  by_cases q1 : a1 = a2
  case neg => simp [q1]
  by_cases q2 : b1 = b2
  case neg => simp [q2]
  by_cases q3 : c1 = c2
  case neg => simp [q3]
  by_cases q4 : d1 = d2
  case neg => simp [q4]
  by_cases q5 : e1 = e2
  case neg => simp [q5]
  by_cases q6 : f1 = f2
  case neg => simp [q6]
  by_cases q7 : g1 = g2 <;> simp [q1, q2, q3, q4, q5, q6, q7]
/-- Are the cells of two origins the same? -/
def eqO (a1 : Bool) (b1 : Int) (c1 d1 : List UInt8) (e1 : Bool) (f1 g1 : Int) (a2 : Bool) (b2 : Int) (c2 d2 : List UInt8) (e2 : Bool) (f2 g2 : Int) : Bool := (a1 == a2) && (b1 == b2) && (c1 == c2) && (d1 == d2) && (e1 == e2) && (f1 == f2) && (g1 == g2)
@[go_sem] theorem eqO_self : eqO a1 b1 c1 d1 e1 f1 g1 a1 b1 c1 d1 e1 f1 g1 = true := by simp [eqO]
@[go_sem high] theorem run_eql_origin : (binOp .eql 34 (.agg #[.bool a1, .int .i64 b1, (.string ⟨(c1).toArray⟩), (.string ⟨(d1).toArray⟩), .bool e1, .int .u32 f1, .int .i64 g1]) (.agg #[.bool a2, .int .i64 b2, (.string ⟨(c2).toArray⟩), (.string ⟨(d2).toArray⟩), .bool e2, .int .u32 f2, .int .i64 g2])).run Tryd.prog w = .ok (.bool (eqO a1 b1 c1 d1 e1 f1 g1 a2 b2 c2 d2 e2 f2 g2)) w := by
  rw [run_eql_struct, run_eq_origin]; rfl
@[go_sem high] theorem run_neq_origin : (binOp .neq 34 (.agg #[.bool a1, .int .i64 b1, (.string ⟨(c1).toArray⟩), (.string ⟨(d1).toArray⟩), .bool e1, .int .u32 f1, .int .i64 g1]) (.agg #[.bool a2, .int .i64 b2, (.string ⟨(c2).toArray⟩), (.string ⟨(d2).toArray⟩), .bool e2, .int .u32 f2, .int .i64 g2])).run Tryd.prog w = .ok (.bool (!(eqO a1 b1 c1 d1 e1 f1 g1 a2 b2 c2 d2 e2 f2 g2))) w := by
  rw [run_neq_struct, run_eq_origin]; rfl
@[go_sem] theorem run_guard_origin (op : BinOp) (x y : Operand) (xs ys : Array Value) : (eqGuard op 34 x y (.agg xs) (.agg ys)).run Tryd.prog w = .ok () w := run_eqGuard_agg w op 34 x y xs ys (by kernel_rfl)
set_option maxHeartbeats 2000000 in
theorem run_eq_host (x1 x2 : List UInt8) : (Op.equalIn 10000 32 (.agg #[.string ⟨x1.toArray⟩, .bool e1, .int .u32 f1]) (.agg #[.string ⟨x2.toArray⟩, .bool e2, .int .u32 f2])).run Tryd.prog w = .ok ((x1 == x2) && (e1 == e2) && (f1 == f2)) w := by
  rw [show (10000 : Nat) = 9999 + 1 from rfl, run_equalIn_agg w 9999 32 _ _ (by kernel_rfl) (by kernel_rfl)]
  simp only [Program.fieldsOf, Tryd.underlying32]
  go_simp
  by_cases q1 : x1 = x2
  case neg => simp [q1]
  by_cases q5 : e1 = e2
  case neg => simp [q5]
  by_cases q6 : f1 = f2 <;> simp [q1, q5, q6]
/-- Are the cells of two hosts the same? -/
def eqH (x1 : List UInt8) (e1 : Bool) (f1 : Int) (x2 : List UInt8) (e2 : Bool) (f2 : Int) : Bool := (x1 == x2) && (e1 == e2) && (f1 == f2)
@[go_sem] theorem eqH_self (x1 : List UInt8) : eqH x1 e1 f1 x1 e1 f1 = true := by simp [eqH]
@[go_sem high] theorem run_eql_host (x1 x2 : List UInt8) : (binOp .eql 32 (.agg #[.string ⟨x1.toArray⟩, .bool e1, .int .u32 f1]) (.agg #[.string ⟨x2.toArray⟩, .bool e2, .int .u32 f2])).run Tryd.prog w = .ok (.bool (eqH x1 e1 f1 x2 e2 f2)) w := by
  rw [run_eql_struct, run_eq_host]; rfl
@[go_sem] theorem run_guard_host (op : BinOp) (x y : Operand) (xs ys : Array Value) : (eqGuard op 32 x y (.agg xs) (.agg ys)).run Tryd.prog w = .ok () w := run_eqGuard_agg w op 32 x y xs ys (by kernel_rfl)
end
end Go.Proofs.YtkfoogmncokjnaaDoor
namespace Go.Proofs.YtkfoogmncokjnaaDoor
open Go.RowKit
attribute [local irreducible] Calls

def bareO (o : Gl.Origin) : Gl.Origin := if o.opaq then { opaq := true, id := o.id } else { o with id := 0 }
theorem host_beq (a b : Gl.Host) : (a == b) = ((a.name == b.name) && (a.v4 == b.v4) && ((a.addr : Int) == (b.addr : Int))) := by
  obtain ⟨n, v, x⟩ := a
  obtain ⟨m, u, y⟩ := b
  rw [Bool.eq_iff_iff]
  simp [and_assoc]
  intros
  omega
theorem bare_same (a b : Gl.Origin) : eqO (bareO a).opaq (bareO a).id (bareO a).scheme (bareO a).host.name (bareO a).host.v4 ((bareO a).host.addr : Int) (bareO a).port (bareO b).opaq (bareO b).id (bareO b).scheme (bareO b).host.name (bareO b).host.v4 ((bareO b).host.addr : Int) (bareO b).port = Gl.originSame a b := by
  unfold eqO
  show (((bareO a).opaq == (bareO b).opaq) && ((bareO a).id == (bareO b).id) && ((bareO a).scheme == (bareO b).scheme) && ((bareO a).host.name == (bareO b).host.name) && ((bareO a).host.v4 == (bareO b).host.v4) && (((bareO a).host.addr : Int) == ((bareO b).host.addr : Int)) && ((bareO a).port == (bareO b).port)) = Gl.originSame a b
  obtain ⟨q, i, s, h, p⟩ := a
  obtain ⟨r, j, t, g, o⟩ := b
  unfold Gl.originSame bareO
  cases q <;> cases r <;> simp [host_beq, Bool.and_assoc]
theorem origin_bare (o : Gl.Origin) (w : World) : Calls Tryd.prog 14 #[(Value.agg #[(Value.bool (o).opaq), (Value.int .i64 (o).id), (Value.string ⟨((o).scheme).toArray⟩), (Value.string ⟨(((o).host).name).toArray⟩), (Value.bool ((o).host).v4), (Value.int .u32 (((o).host).addr : Int)), (Value.int .i64 (o).port)])] w (Ret w ((Value.agg #[(Value.bool (bareO o).opaq), (Value.int .i64 (bareO o).id), (Value.string ⟨((bareO o).scheme).toArray⟩), (Value.string ⟨(((bareO o).host).name).toArray⟩), (Value.bool ((bareO o).host).v4), (Value.int .u32 (((bareO o).host).addr : Int)), (Value.int .i64 (bareO o).port)]))) := by
  obtain ⟨q, i, s, h, p⟩ := o
  cases q <;> unfold bareO <;> simp only [Bool.false_eq_true, if_false, if_true]
  all_goals
    go_enter Tryd.func14, Tryd.ntmps14
    go_wp2
  · refine bodyPost_ret (v := (Value.agg #[.bool false, .int .i64 0, (Value.string ⟨(s).toArray⟩), (Value.string ⟨((h).name).toArray⟩), (Value.bool (h).v4), (Value.int .u32 ((h).addr : Int)), .int .i64 p])) (by simp only [results, Tryd.results14]; go_simp) rfl ⟨rfl, ?_⟩
    (repeat' first | (with_reducible exact Below.refl _ _) | (with_reducible refine Below.setCell ?_ (by first | omega | (simp; done) | (simp; omega)) _) | (with_reducible refine Below.alloc ?_ (by first | omega | (simp; done) | (simp; omega)) _) | refine below_drewN ?_ _ | refine Below.drew ?_ | (refine below_thru (by assumption) ?_ (by first | omega | (simp; done) | (simp; omega))) | exact Below.refl _ _)
  · refine bodyPost_ret (v := (Value.agg #[.bool true, .int .i64 i, .string ⟨#[]⟩, .string ⟨#[]⟩, .bool false, .int .u32 0, .int .i64 0])) (by simp only [results, Tryd.results14]; go_simp) rfl ⟨rfl, ?_⟩
    (repeat' first | (with_reducible exact Below.refl _ _) | (with_reducible refine Below.setCell ?_ (by first | omega | (simp; done) | (simp; omega)) _) | (with_reducible refine Below.alloc ?_ (by first | omega | (simp; done) | (simp; omega)) _) | refine below_drewN ?_ _ | refine Below.drew ?_ | (refine below_thru (by assumption) ?_ (by first | omega | (simp; done) | (simp; omega))) | exact Below.refl _ _)
set_option maxHeartbeats 1000000 in
theorem origin_same (a b : Gl.Origin) (w : World) : Calls Tryd.prog 9 #[(Value.agg #[(Value.bool (a).opaq), (Value.int .i64 (a).id), (Value.string ⟨((a).scheme).toArray⟩), (Value.string ⟨(((a).host).name).toArray⟩), (Value.bool ((a).host).v4), (Value.int .u32 (((a).host).addr : Int)), (Value.int .i64 (a).port)]), (Value.agg #[(Value.bool (b).opaq), (Value.int .i64 (b).id), (Value.string ⟨((b).scheme).toArray⟩), (Value.string ⟨(((b).host).name).toArray⟩), (Value.bool ((b).host).v4), (Value.int .u32 (((b).host).addr : Int)), (Value.int .i64 (b).port)])] w (Ret w (.bool (Gl.originSame a b))) := by
  have hs := bare_same a b
  generalize Gl.originSame a b = R at *
  have h1 := fun W => origin_bare a W
  have h2 := fun W => origin_bare b W
  generalize bareO a = x at *
  generalize bareO b = y at *
  replace h1 := Lib.hid h1
  replace h2 := Lib.hid h2
  go_enter Tryd.func9, Tryd.ntmps9
  go_wp2_with fail
  generalize hW0 : ((w.alloc (Obj.cells #[(Value.bool (a).opaq), (Value.int .i64 (a).id), (Value.string ⟨((a).scheme).toArray⟩), (Value.string ⟨(((a).host).name).toArray⟩), (Value.bool ((a).host).v4), (Value.int .u32 (((a).host).addr : Int)), (Value.int .i64 (a).port)] 34)).alloc (Obj.cells #[(Value.bool (b).opaq), (Value.int .i64 (b).id), (Value.string ⟨((b).scheme).toArray⟩), (Value.string ⟨(((b).host).name).toArray⟩), (Value.bool ((b).host).v4), (Value.int .u32 (((b).host).addr : Int)), (Value.int .i64 (b).port)] 34)) = W0
  have hw0 : Below w.heap.size w W0 := by rw [← hW0]; (repeat' first | (with_reducible exact Below.refl _ _) | (with_reducible refine Below.setCell ?_ (by first | omega | (simp; done) | (simp; omega)) _) | (with_reducible refine Below.alloc ?_ (by first | omega | (simp; done) | (simp; omega)) _) | refine below_drewN ?_ _ | refine Below.drew ?_ | (refine below_thru (by assumption) ?_ (by first | omega | (simp; done) | (simp; omega))) | exact Below.refl _ _)
  have hBA : Blk W0 (w.heap.size) 34 #[(Value.bool (a).opaq), (Value.int .i64 (a).id), (Value.string ⟨((a).scheme).toArray⟩), (Value.string ⟨(((a).host).name).toArray⟩), (Value.bool ((a).host).v4), (Value.int .u32 (((a).host).addr : Int)), (Value.int .i64 (a).port)] := by rw [← hW0]; exact (Blk.alloc (Blk.new _ _ _) _)
  have hBB : Blk W0 (w.heap.size + 1) 34 #[(Value.bool (b).opaq), (Value.int .i64 (b).id), (Value.string ⟨((b).scheme).toArray⟩), (Value.string ⟨(((b).host).name).toArray⟩), (Value.bool ((b).host).v4), (Value.int .u32 (((b).host).addr : Int)), (Value.int .i64 (b).port)] := by rw [← hW0]; exact (by have := Blk.new (w.alloc (Obj.cells #[(Value.bool (a).opaq), (Value.int .i64 (a).id), (Value.string ⟨((a).scheme).toArray⟩), (Value.string ⟨(((a).host).name).toArray⟩), (Value.bool ((a).host).v4), (Value.int .u32 (((a).host).addr : Int)), (Value.int .i64 (a).port)] 34)) 34 #[(Value.bool (b).opaq), (Value.int .i64 (b).id), (Value.string ⟨((b).scheme).toArray⟩), (Value.string ⟨(((b).host).name).toArray⟩), (Value.bool ((b).host).v4), (Value.int .u32 (((b).host).addr : Int)), (Value.int .i64 (b).port)]; simpa [World.size_alloc] using this)
  have hAl := hBA.lt
  have hAc := hBA.cell
  have hAf := hBA.frozen
  have hBl := hBB.lt
  have hBc := hBB.cell
  have hBf := hBB.frozen
  clear hW0
  go_region_held3 (fun W => Below w.heap.size w W ∧ w.heap.size < W.heap.size ∧ w.heap.size + 1 < W.heap.size ∧ (∀ n0, W.cell? ⟨w.heap.size, n0, none⟩ = (#[(Value.bool (a).opaq), (Value.int .i64 (a).id), (Value.string ⟨((a).scheme).toArray⟩), (Value.string ⟨(((a).host).name).toArray⟩), (Value.bool ((a).host).v4), (Value.int .u32 (((a).host).addr : Int)), (Value.int .i64 (a).port)] : Array Value)[n0]?) ∧ (∀ n0, W.cell? ⟨w.heap.size + 1, n0, none⟩ = (#[(Value.bool (b).opaq), (Value.int .i64 (b).id), (Value.string ⟨((b).scheme).toArray⟩), (Value.string ⟨(((b).host).name).toArray⟩), (Value.bool ((b).host).v4), (Value.int .u32 (((b).host).addr : Int)), (Value.int .i64 (b).port)] : Array Value)[n0]?)) ((refine ⟨by (repeat' first | (with_reducible exact Below.refl _ _) | (with_reducible refine Below.setCell ?_ (by first | omega | (simp; done) | (simp; omega)) _) | (with_reducible refine Below.alloc ?_ (by first | omega | (simp; done) | (simp; omega)) _) | refine below_drewN ?_ _ | refine Below.drew ?_ | (refine below_thru (by assumption) ?_ (by first | omega | (simp; done) | (simp; omega))) | exact Below.refl _ _), ?_⟩; simp [*]))
    (first | (go_at_call 14; refine ( h1.out _).mono ?_; rintro e w1 ⟨rfl, hb⟩; obtain ⟨hc, hfz⟩ := bcell hb; have hz := hb.size; (try simp at hz); (try have hz0 : w.heap.size < w1.heap.size := by omega); (try have hz1 : w.heap.size + 1 < w1.heap.size := by omega); (try have hz2 : w.heap.size + 2 < w1.heap.size := by omega); (try have hz3 : w.heap.size + 3 < w1.heap.size := by omega); (try have hcA := fun o => hc w.heap.size o (by first | omega | (simp; omega))); (try have hcB := fun o => hc (w.heap.size + 1) o (by first | omega | (simp; omega)))) | (go_at_call 14; refine ( h2.out _).mono ?_; rintro e w1 ⟨rfl, hb⟩; obtain ⟨hc, hfz⟩ := bcell hb; have hz := hb.size; (try simp at hz); (try have hz0 : w.heap.size < w1.heap.size := by omega); (try have hz1 : w.heap.size + 1 < w1.heap.size := by omega); (try have hz2 : w.heap.size + 2 < w1.heap.size := by omega); (try have hz3 : w.heap.size + 3 < w1.heap.size := by omega); (try have hcA := fun o => hc w.heap.size o (by first | omega | (simp; omega))); (try have hcB := fun o => hc (w.heap.size + 1) o (by first | omega | (simp; omega)))))
  all_goals go_wp2_with fail
  all_goals go_ret
  all_goals exact ⟨rfl, by (repeat' first | (with_reducible exact Below.refl _ _) | (with_reducible refine Below.setCell ?_ (by first | omega | (simp; done) | (simp; omega)) _) | (with_reducible refine Below.alloc ?_ (by first | omega | (simp; done) | (simp; omega)) _) | refine below_drewN ?_ _ | refine Below.drew ?_ | (refine below_thru (by assumption) ?_ (by first | omega | (simp; done) | (simp; omega))) | exact Below.refl _ _)⟩
end Go.Proofs.YtkfoogmncokjnaaDoor
namespace Go.Proofs.YtkfoogmncokjnaaDoor
open Go.RowKit
attribute [local irreducible] Calls

structure OFits (o : Gl.Origin) : Prop where
  addr : o.host.addr < 4294967296
  name : o.host.name.length ≤ 1000000
/-- A row of suffixes, few and short. -/
structure Sufs (w : World) (v : Value) (S : List (List UInt8)) : Prop where
  strs : Strs w w.heap.size v S
  few : S.length ≤ 1000000
  short : ∀ s ∈ S, s.length ≤ 1000000
theorem Sufs.below {w w' : World} {v : Value} {S : List (List UInt8)} (h : Sufs w v S) (hb : Below w.heap.size w w') : Sufs w' v S := ⟨(h.strs.keep hb).more hb.size, h.few, h.short⟩

end Go.Proofs.YtkfoogmncokjnaaDoor
