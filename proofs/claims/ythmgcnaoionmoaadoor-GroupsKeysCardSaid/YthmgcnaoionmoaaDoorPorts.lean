/- urlp.ports: a map that the call makes, of five texts; and what is looked up in it. -/
import Derived.Test.YthmgcnaoionmoaaDoorScheme
import Derived.Test.YthmgcnaoionmoaaDoorCore
import Derived.WideMake
namespace Go.Proofs.YthmgcnaoionmoaaDoor
open Go.RowKit

theorem run_put {P : Program} (w : World) (mty kt et : TypeId) (s : ByteArray) (val : Value) (es : Array MapEntry) (clock : Nat) (hm : P.underlying mty = some (.map kt et)) (hk : P.underlying kt = some .string)
    (hf : Instr.findNow .string (.string s) es.toList 0 = some none) :
    (Instr.mapUpdate mty (.map (some w.heap.size)) (.string s) val).run P (w.alloc (.map es clock)) = .ok () (w.alloc (.map (es.push { key := .string s, val := val, born := clock }) (clock + 1))) := by
  have hb : (w.alloc (.map es clock)).heap[w.heap.size]? = some (.map es clock) := heap_alloc_new w _
  have hc : (Instr.checkKey false 10000 kt (.string s)).run P (w.alloc (.map es clock)) = .ok () (w.alloc (.map es clock)) := MapKept.run_checkKey (k := .string s) hk (by simp [MapKept.IsKey]) false 9999
  simp [Instr.mapUpdate, run_underlying hm, MapKept.run_getObj_map hb, hc, MapKept.run_findKey hk hf, MapKept.run_setObj_map _ hb, Result.andThen]
  have hset : ∀ (a : Array Obj) (x y : Obj), (a.push x).setIfInBounds a.size y = a.push y := by
    intro a x y
    apply Array.ext'
    simp [List.set_append_right]
  simp only [World.alloc, hset]

theorem run_get {P : Program} (w : World) (mty kt et : TypeId) (r : Nat) (s : ByteArray) (es : Array MapEntry) (clock : Nat) (z : Value) (res : Option (Nat × Value)) (hm : P.underlying mty = some (.map kt et)) (hk : P.underlying kt = some .string)
    (hz : (zeroValue et).run P w = .ok z w) (hb : w.heap[r]? = some (.map es clock)) (hf : Instr.findNow .string (.string s) es.toList 0 = some res) :
    (Instr.lookup mty (.map (some r)) (.string s) true).run P w = .ok (.tuple #[(res.map (·.2)).getD z, .bool res.isSome]) w := by
  have hc : ∀ b, (Instr.checkKey b 10000 kt (.string s)).run P w = .ok () w := fun b => MapKept.run_checkKey (k := .string s) hk (by simp [MapKept.IsKey]) b 9999
  cases res with
  | none => simp [Instr.lookup, run_underlying hm, MapKept.run_getObj_map hb, hc, MapKept.run_findKey hk hf, hz, Result.andThen]
  | some x => simp [Instr.lookup, run_underlying hm, MapKept.run_getObj_map hb, hc, MapKept.run_findKey hk hf, Result.andThen]

def portsMap : Array MapEntry := #[{ key := .string ⟨#[104, 116, 116, 112]⟩, val := .int .i64 80, born := 0 }, { key := .string ⟨#[104, 116, 116, 112, 115]⟩, val := .int .i64 443, born := 1 }, { key := .string ⟨#[97, 98, 111, 117, 116]⟩, val := .int .i64 (-1), born := 2 }, { key := .string ⟨#[100, 97, 116, 97]⟩, val := .int .i64 (-1), born := 3 }, { key := .string ⟨#[98, 108, 111, 98]⟩, val := .int .i64 (-1), born := 4 }]

set_option maxRecDepth 100000 in
theorem urlp_ports (w : World) : Calls Tryd.prog 48 #[] w (fun e w' => e = .returned (.map (some w.heap.size)) ∧ w' = w.alloc (.map portsMap 5)) := by
  have hmm := @run_makeMap Tryd.prog
  have p1 : (Instr.mapUpdate 66 (.map (some w.heap.size)) (.string ⟨#[104, 116, 116, 112]⟩) (.int .i64 80)).run Tryd.prog (w.alloc (.map (#[] : Array MapEntry) 0)) = .ok () (w.alloc (.map (#[{ key := .string ⟨#[104, 116, 116, 112]⟩, val := .int .i64 80, born := 0 }] : Array MapEntry) 1)) :=
    run_put (P := Tryd.prog) w 66 9 3 _ _ (#[] : Array MapEntry) 0 Tryd.underlying66 Tryd.underlying9 (by kernel_rfl)
  have p2 : (Instr.mapUpdate 66 (.map (some w.heap.size)) (.string ⟨#[104, 116, 116, 112, 115]⟩) (.int .i64 443)).run Tryd.prog (w.alloc (.map (#[{ key := .string ⟨#[104, 116, 116, 112]⟩, val := .int .i64 80, born := 0 }] : Array MapEntry) 1)) = .ok () (w.alloc (.map (#[{ key := .string ⟨#[104, 116, 116, 112]⟩, val := .int .i64 80, born := 0 }, { key := .string ⟨#[104, 116, 116, 112, 115]⟩, val := .int .i64 443, born := 1 }] : Array MapEntry) 2)) :=
    run_put (P := Tryd.prog) w 66 9 3 _ _ (#[{ key := .string ⟨#[104, 116, 116, 112]⟩, val := .int .i64 80, born := 0 }] : Array MapEntry) 1 Tryd.underlying66 Tryd.underlying9 (by kernel_rfl)
  have p3 : (Instr.mapUpdate 66 (.map (some w.heap.size)) (.string ⟨#[97, 98, 111, 117, 116]⟩) (.int .i64 (-1))).run Tryd.prog (w.alloc (.map (#[{ key := .string ⟨#[104, 116, 116, 112]⟩, val := .int .i64 80, born := 0 }, { key := .string ⟨#[104, 116, 116, 112, 115]⟩, val := .int .i64 443, born := 1 }] : Array MapEntry) 2)) = .ok () (w.alloc (.map (#[{ key := .string ⟨#[104, 116, 116, 112]⟩, val := .int .i64 80, born := 0 }, { key := .string ⟨#[104, 116, 116, 112, 115]⟩, val := .int .i64 443, born := 1 }, { key := .string ⟨#[97, 98, 111, 117, 116]⟩, val := .int .i64 (-1), born := 2 }] : Array MapEntry) 3)) :=
    run_put (P := Tryd.prog) w 66 9 3 _ _ (#[{ key := .string ⟨#[104, 116, 116, 112]⟩, val := .int .i64 80, born := 0 }, { key := .string ⟨#[104, 116, 116, 112, 115]⟩, val := .int .i64 443, born := 1 }] : Array MapEntry) 2 Tryd.underlying66 Tryd.underlying9 (by kernel_rfl)
  have p4 : (Instr.mapUpdate 66 (.map (some w.heap.size)) (.string ⟨#[100, 97, 116, 97]⟩) (.int .i64 (-1))).run Tryd.prog (w.alloc (.map (#[{ key := .string ⟨#[104, 116, 116, 112]⟩, val := .int .i64 80, born := 0 }, { key := .string ⟨#[104, 116, 116, 112, 115]⟩, val := .int .i64 443, born := 1 }, { key := .string ⟨#[97, 98, 111, 117, 116]⟩, val := .int .i64 (-1), born := 2 }] : Array MapEntry) 3)) = .ok () (w.alloc (.map (#[{ key := .string ⟨#[104, 116, 116, 112]⟩, val := .int .i64 80, born := 0 }, { key := .string ⟨#[104, 116, 116, 112, 115]⟩, val := .int .i64 443, born := 1 }, { key := .string ⟨#[97, 98, 111, 117, 116]⟩, val := .int .i64 (-1), born := 2 }, { key := .string ⟨#[100, 97, 116, 97]⟩, val := .int .i64 (-1), born := 3 }] : Array MapEntry) 4)) :=
    run_put (P := Tryd.prog) w 66 9 3 _ _ (#[{ key := .string ⟨#[104, 116, 116, 112]⟩, val := .int .i64 80, born := 0 }, { key := .string ⟨#[104, 116, 116, 112, 115]⟩, val := .int .i64 443, born := 1 }, { key := .string ⟨#[97, 98, 111, 117, 116]⟩, val := .int .i64 (-1), born := 2 }] : Array MapEntry) 3 Tryd.underlying66 Tryd.underlying9 (by kernel_rfl)
  have p5 : (Instr.mapUpdate 66 (.map (some w.heap.size)) (.string ⟨#[98, 108, 111, 98]⟩) (.int .i64 (-1))).run Tryd.prog (w.alloc (.map (#[{ key := .string ⟨#[104, 116, 116, 112]⟩, val := .int .i64 80, born := 0 }, { key := .string ⟨#[104, 116, 116, 112, 115]⟩, val := .int .i64 443, born := 1 }, { key := .string ⟨#[97, 98, 111, 117, 116]⟩, val := .int .i64 (-1), born := 2 }, { key := .string ⟨#[100, 97, 116, 97]⟩, val := .int .i64 (-1), born := 3 }] : Array MapEntry) 4)) = .ok () (w.alloc (.map (#[{ key := .string ⟨#[104, 116, 116, 112]⟩, val := .int .i64 80, born := 0 }, { key := .string ⟨#[104, 116, 116, 112, 115]⟩, val := .int .i64 443, born := 1 }, { key := .string ⟨#[97, 98, 111, 117, 116]⟩, val := .int .i64 (-1), born := 2 }, { key := .string ⟨#[100, 97, 116, 97]⟩, val := .int .i64 (-1), born := 3 }, { key := .string ⟨#[98, 108, 111, 98]⟩, val := .int .i64 (-1), born := 4 }] : Array MapEntry) 5)) :=
    run_put (P := Tryd.prog) w 66 9 3 _ _ (#[{ key := .string ⟨#[104, 116, 116, 112]⟩, val := .int .i64 80, born := 0 }, { key := .string ⟨#[104, 116, 116, 112, 115]⟩, val := .int .i64 443, born := 1 }, { key := .string ⟨#[97, 98, 111, 117, 116]⟩, val := .int .i64 (-1), born := 2 }, { key := .string ⟨#[100, 97, 116, 97]⟩, val := .int .i64 (-1), born := 3 }] : Array MapEntry) 4 Tryd.underlying66 Tryd.underlying9 (by kernel_rfl)
  go_enter Tryd.func48, Tryd.ntmps48
  go_wp2
  go_ret
  exact ⟨rfl, rfl⟩

/-- The own port of a scheme (0: not known), and whether it is known. -/
def portOf (s : List UInt8) : Int := if s = Gl.http then 80 else if s = Gl.https then 443 else if s = Gl.about ∨ s = Gl.data ∨ s = Gl.blob then -1 else 0

theorem string_beq (a b : List UInt8) : ((⟨a.toArray⟩ : ByteArray) == ⟨b.toArray⟩) = (a == b) := by
  show (a.toArray == b.toArray) = (a == b)
  simp

theorem find_ports (s : List UInt8) : ∃ res, Instr.findNow .string (.string ⟨s.toArray⟩) portsMap.toList 0 = some res ∧ (res.map (·.2)).getD (.int .i64 0) = .int .i64 (portOf s) ∧ res.isSome = known s := by
  have hstep : ∀ (k : List UInt8) (v : Value) (b : Nat) (es : List MapEntry) (i : Nat), Instr.findNow .string (.string ⟨s.toArray⟩) ({ key := .string ⟨k.toArray⟩, val := v, born := b } :: es) i = if s = k then some (some (i, v)) else Instr.findNow .string (.string ⟨s.toArray⟩) es (i + 1) := by
    intro k v b es i
    conv => lhs; unfold Instr.findNow
    simp only [Instr.sameNow, string_beq]
    by_cases h : s = k
    · rw [if_pos h, beq_iff_eq.2 h]
    · rw [if_neg h, beq_eq_false_iff_ne.2 h]
  show ∃ res, Instr.findNow .string (.string ⟨s.toArray⟩) [{ key := .string ⟨Gl.http.toArray⟩, val := .int .i64 80, born := 0 }, { key := .string ⟨Gl.https.toArray⟩, val := .int .i64 443, born := 1 }, { key := .string ⟨Gl.about.toArray⟩, val := .int .i64 (-1), born := 2 }, { key := .string ⟨Gl.data.toArray⟩, val := .int .i64 (-1), born := 3 }, { key := .string ⟨Gl.blob.toArray⟩, val := .int .i64 (-1), born := 4 }] 0 = some res ∧ _
  simp only [hstep]
  have hnil : ∀ i, Instr.findNow .string (.string ⟨s.toArray⟩) [] i = some none := fun _ => rfl
  rw [hnil]
  by_cases h1 : s = Gl.http
  · exact ⟨_, if_pos h1, by subst h1; rfl, by subst h1; rfl⟩
  by_cases h2 : s = Gl.https
  · exact ⟨_, by rw [if_neg h1, if_pos h2], by subst h2; rfl, by subst h2; rfl⟩
  by_cases h3 : s = Gl.about
  · exact ⟨_, by rw [if_neg h1, if_neg h2, if_pos h3], by subst h3; rfl, by subst h3; rfl⟩
  by_cases h4 : s = Gl.data
  · exact ⟨_, by rw [if_neg h1, if_neg h2, if_neg h3, if_pos h4], by subst h4; rfl, by subst h4; rfl⟩
  by_cases h5 : s = Gl.blob
  · exact ⟨_, by rw [if_neg h1, if_neg h2, if_neg h3, if_neg h4, if_pos h5], by subst h5; rfl, by subst h5; rfl⟩
  · refine ⟨_, by rw [if_neg h1, if_neg h2, if_neg h3, if_neg h4, if_neg h5], ?_, ?_⟩
    · simp [portOf, h1, h2, h3, h4, h5]
    · simp [known, h1, h2, h3, h4, h5]

theorem look_ports (s : List UInt8) (W : World) (r : Nat) (h : W.heap[r]? = some (.map portsMap 5)) :
    (Instr.lookup 66 (.map (some r)) (.string ⟨s.toArray⟩) true).run Tryd.prog W = .ok (.tuple #[.int .i64 (portOf s), .bool (known s)]) W := by
  obtain ⟨res, h1, h2, h3⟩ := find_ports s
  rw [run_get (P := Tryd.prog) W 66 9 3 r _ _ _ (.int .i64 0) res Tryd.underlying66 Tryd.underlying9 (by kernel_rfl) h h1, h2, h3]

theorem urlp_ports_at (w : World) : Calls Tryd.prog 48 #[] w (fun e w' => (e = .returned (.map (some w.heap.size)) ∧ Below w.heap.size w w') ∧ w'.heap[w.heap.size]? = some (.map portsMap 5)) :=
  (urlp_ports w).mono fun _ _ ⟨he, hw⟩ => ⟨⟨he, hw ▸ Below.alloc (Below.refl _ _) (Nat.le_refl _) _⟩, hw ▸ heap_alloc_new w _⟩
end Go.Proofs.YthmgcnaoionmoaaDoor
