/- origin.own: a map that the call makes, of two texts; and what is looked up in it. -/
import Derived.Test.YthmgcnaoionmoaaDoorPorts
namespace Go.Proofs.YthmgcnaoionmoaaDoor
open Go.RowKit
theorem run_get1 {P : Program} (w : World) (mty kt et : TypeId) (r : Nat) (s : ByteArray) (es : Array MapEntry) (clock : Nat) (z : Value) (res : Option (Nat × Value)) (hm : P.underlying mty = some (.map kt et)) (hk : P.underlying kt = some .string)
    (hz : (zeroValue et).run P w = .ok z w) (hb : w.heap[r]? = some (.map es clock)) (hf : Instr.findNow .string (.string s) es.toList 0 = some res) :
    (Instr.lookup mty (.map (some r)) (.string s) false).run P w = .ok ((res.map (·.2)).getD z) w := by
  have hc : ∀ b, (Instr.checkKey b 10000 kt (.string s)).run P w = .ok () w := fun b => MapKept.run_checkKey (k := .string s) hk (by simp [MapKept.IsKey]) b 9999
  cases res with
  | none => simp [Instr.lookup, run_underlying hm, MapKept.run_getObj_map hb, hc, MapKept.run_findKey hk hf, hz, Result.andThen]
  | some x => simp [Instr.lookup, run_underlying hm, MapKept.run_getObj_map hb, hc, MapKept.run_findKey hk hf, Result.andThen]
def ownMap : Array MapEntry := #[{ key := .string ⟨#[104, 116, 116, 112]⟩, val := .int .i64 80, born := 0 }, { key := .string ⟨#[104, 116, 116, 112, 115]⟩, val := .int .i64 443, born := 1 }]
set_option maxRecDepth 100000 in
theorem origin_own (w : World) : Calls Tryd.prog 66 #[] w (fun e w' => e = .returned (.map (some w.heap.size)) ∧ w' = w.alloc (.map ownMap 2)) := by
  have hmm := @run_makeMap Tryd.prog
  have p1 : (Instr.mapUpdate 66 (.map (some w.heap.size)) (.string ⟨#[104, 116, 116, 112]⟩) (.int .i64 80)).run Tryd.prog (w.alloc (.map (#[] : Array MapEntry) 0)) = .ok () (w.alloc (.map (#[{ key := .string ⟨#[104, 116, 116, 112]⟩, val := .int .i64 80, born := 0 }] : Array MapEntry) 1)) :=
    run_put (P := Tryd.prog) w 66 9 3 _ _ (#[] : Array MapEntry) 0 Tryd.underlying66 Tryd.underlying9 (by kernel_rfl)
  have p2 : (Instr.mapUpdate 66 (.map (some w.heap.size)) (.string ⟨#[104, 116, 116, 112, 115]⟩) (.int .i64 443)).run Tryd.prog (w.alloc (.map (#[{ key := .string ⟨#[104, 116, 116, 112]⟩, val := .int .i64 80, born := 0 }] : Array MapEntry) 1)) = .ok () (w.alloc (.map ownMap 2)) :=
    run_put (P := Tryd.prog) w 66 9 3 _ _ (#[{ key := .string ⟨#[104, 116, 116, 112]⟩, val := .int .i64 80, born := 0 }] : Array MapEntry) 1 Tryd.underlying66 Tryd.underlying9 (by kernel_rfl)
  go_enter Tryd.func66, Tryd.ntmps66
  go_wp2
  go_ret
  exact ⟨rfl, rfl⟩
/-- The own port of a scheme, 0 where it has none; has it one? -/
def ownOf (s : List UInt8) : Int := if s = Gl.http then 80 else if s = Gl.https then 443 else 0
def hasOwn (s : List UInt8) : Bool := s == Gl.http || s == Gl.https
theorem find_own (s : List UInt8) : ∃ res, Instr.findNow .string (.string ⟨s.toArray⟩) ownMap.toList 0 = some res ∧ (res.map (·.2)).getD (.int .i64 0) = .int .i64 (ownOf s) ∧ res.isSome = hasOwn s := by
  have hstep : ∀ (k : List UInt8) (v : Value) (b : Nat) (es : List MapEntry) (i : Nat), Instr.findNow .string (.string ⟨s.toArray⟩) ({ key := .string ⟨k.toArray⟩, val := v, born := b } :: es) i = if s = k then some (some (i, v)) else Instr.findNow .string (.string ⟨s.toArray⟩) es (i + 1) := by
    intro k v b es i
    conv => lhs; unfold Instr.findNow
    simp only [Instr.sameNow, string_beq]
    by_cases h : s = k
    · rw [if_pos h, beq_iff_eq.2 h]
    · rw [if_neg h, beq_eq_false_iff_ne.2 h]
  show ∃ res, Instr.findNow .string (.string ⟨s.toArray⟩) [{ key := .string ⟨Gl.http.toArray⟩, val := .int .i64 80, born := 0 }, { key := .string ⟨Gl.https.toArray⟩, val := .int .i64 443, born := 1 }] 0 = some res ∧ _
  simp only [hstep]
  have hnil : ∀ i, Instr.findNow .string (.string ⟨s.toArray⟩) [] i = some none := fun _ => rfl
  rw [hnil]
  by_cases h1 : s = Gl.http
  · exact ⟨_, if_pos h1, by subst h1; rfl, by subst h1; rfl⟩
  by_cases h2 : s = Gl.https
  · exact ⟨_, by rw [if_neg h1, if_pos h2], by subst h2; rfl, by subst h2; rfl⟩
  · refine ⟨_, by rw [if_neg h1, if_neg h2], ?_, ?_⟩
    · simp [ownOf, h1, h2]
    · simp [hasOwn, h1, h2]
theorem look_own (s : List UInt8) (W : World) (r : Nat) (h : W.heap[r]? = some (.map ownMap 2)) :
    (Instr.lookup 66 (.map (some r)) (.string ⟨s.toArray⟩) true).run Tryd.prog W = .ok (.tuple #[.int .i64 (ownOf s), .bool (hasOwn s)]) W := by
  obtain ⟨res, h1, h2, h3⟩ := find_own s
  rw [run_get (P := Tryd.prog) W 66 9 3 r _ _ _ (.int .i64 0) res Tryd.underlying66 Tryd.underlying9 (by kernel_rfl) h h1, h2, h3]
theorem look_own1 (s : List UInt8) (W : World) (r : Nat) (h : W.heap[r]? = some (.map ownMap 2)) :
    (Instr.lookup 66 (.map (some r)) (.string ⟨s.toArray⟩) false).run Tryd.prog W = .ok (.int .i64 (ownOf s)) W := by
  obtain ⟨res, h1, h2, _⟩ := find_own s
  rw [run_get1 (P := Tryd.prog) W 66 9 3 r _ _ _ (.int .i64 0) res Tryd.underlying66 Tryd.underlying9 (by kernel_rfl) h h1, h2]
theorem origin_own_at (w : World) : Calls Tryd.prog 66 #[] w (fun e w' => (e = .returned (.map (some w.heap.size)) ∧ Below w.heap.size w w') ∧ w'.heap[w.heap.size]? = some (.map ownMap 2)) :=
  (origin_own w).mono fun _ _ ⟨he, hw⟩ => ⟨⟨he, hw ▸ Below.alloc (Below.refl _ _) (Nat.le_refl _) _⟩, hw ▸ heap_alloc_new w _⟩
end Go.Proofs.YthmgcnaoionmoaaDoor
