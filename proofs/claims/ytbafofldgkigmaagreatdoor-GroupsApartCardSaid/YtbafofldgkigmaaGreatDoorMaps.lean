/- Maps whose keys are numbers, or places (a group and a key): what is looked up, and what is laid in; and atomic.Int64's Add. -/
import Derived.Test.YtbafofldgkigmaaGreatDoorOne
import Derived.Laws.StructEq
import Derived.Laws.Externs
import Derived.MapKept
import Derived.WideKeyRuns
import Derived.RangeFuncRecord
namespace Go.Proofs.YtbafofldgkigmaaGreatDoor
open Go.RowKit

/-- What a lookup finds, once it is known what 'findKey' gives. -/
theorem run_look {P : Program} (w : World) (mty kt et : TypeId) (r : Nat) (k : Value) (es : Array MapEntry) (clock : Nat) (z : Value) (res : Option (Nat × Value)) (ok : Bool) (hm : P.underlying mty = some (.map kt et))
    (hz : (zeroValue et).run P w = .ok z w) (hb : w.heap[r]? = some (.map es clock)) (hc : ∀ b, (Instr.checkKey b 10000 kt k).run P w = .ok () w) (hf : (Instr.findKey kt k es.toList).run P w = .ok res w) :
    (Instr.lookup mty (.map (some r)) k ok).run P w = .ok (if ok then .tuple #[(res.map (·.2)).getD z, .bool res.isSome] else (res.map (·.2)).getD z) w := by
  cases res with
  | none => cases ok <;> simp [Instr.lookup, run_underlying hm, MapKept.run_getObj_map hb, hc, hf, hz, Result.andThen]
  | some x => cases ok <;> simp [Instr.lookup, run_underlying hm, MapKept.run_getObj_map hb, hc, hf, Result.andThen]
theorem run_lay {P : Program} (w : World) (mty kt et : TypeId) (r : Nat) (k val : Value) (es : Array MapEntry) (clock : Nat) (hm : P.underlying mty = some (.map kt et))
    (hb : w.heap[r]? = some (.map es clock)) (hc : ∀ b, (Instr.checkKey b 10000 kt k).run P w = .ok () w) (hf : (Instr.findKey kt k es.toList).run P w = .ok none w) :
    (Instr.mapUpdate mty (.map (some r)) k val).run P w = .ok () (w.putObj r (.map (es.push { key := k, val := val, born := clock }) (clock + 1))) := by
  simp [Instr.mapUpdate, run_underlying hm, MapKept.run_getObj_map hb, hc, hf, MapKept.run_setObj_map _ hb, Result.andThen]
  rfl
/-- In an assignment of many: the entry is made first (with the zero value), and what it is to hold is stored by the entry's stamp. -/
theorem run_entry_new {P : Program} (w : World) (mty kt et : TypeId) (r : Nat) (k z : Value) (es : Array MapEntry) (clock : Nat) (hm : P.underlying mty = some (.map kt et)) (hz : (zeroValue et).run P w = .ok z w)
    (hb : w.heap[r]? = some (.map es clock)) (hc : ∀ b, (Instr.checkKey b 10000 kt k).run P w = .ok () w) (hf : (Instr.findKey kt k es.toList).run P w = .ok none w) :
    (Instr.mapEntry mty (.map (some r)) k).run P w = .ok (.tuple #[z, goInt clock]) (w.putObj r (.map (es.push { key := k, val := z, born := clock }) (clock + 1))) := by
  simp [Instr.mapEntry, run_underlying hm, MapKept.run_getObj_map hb, hc, hf, hz, MapKept.run_setObj_map _ hb, Result.andThen]
  rfl
theorem findIdx_push (es : Array MapEntry) (clock : Nat) (e : MapEntry) (he : e.born = clock) (hbn : ∀ x ∈ es, x.born < clock) : (es.push e).findIdx? (fun x => (x.born : Int) == (clock : Int)) = some es.size := by
  have h1 : es.findIdx? (fun x => (x.born : Int) == (clock : Int)) = none := by
    rw [Array.findIdx?_eq_none_iff]
    intro x hx
    have := hbn x hx
    simp
    omega
  rw [Array.findIdx?_push, h1]
  simp [he]
theorem run_entry_store {P : Program} (w : World) (mty : TypeId) (r : Nat) (k z v : Value) (es : Array MapEntry) (clock : Nat)
    (hb : w.heap[r]? = some (.map (es.push { key := k, val := z, born := clock }) (clock + 1))) (hbn : ∀ x ∈ es, x.born < clock) :
    (Instr.entryStore mty (.map (some r)) (goInt clock) v).run P w = .ok () (w.putObj r (.map (es.push { key := k, val := v, born := clock }) (clock + 1))) := by
  have hi := findIdx_push es clock { key := k, val := z, born := clock } rfl hbn
  have hmod : (es.push { key := k, val := z, born := clock }).modify es.size (fun e => { e with val := v }) = es.push { key := k, val := v, born := clock } := by
    apply Array.ext
    · simp
    · intro i hi1 hi2
      simp only [Array.size_modify, Array.size_push] at hi1
      rw [Array.getElem_modify]
      by_cases q : es.size = i
      · subst q
        simp
      · have hq : i < es.size := by omega
        simp [q, Array.getElem_push_lt hq]
  simp [Instr.entryStore, MapKept.run_getObj_map hb, asInt, asIntOf, goInt, hi, hmod, MapKept.run_setObj_map _ hb, Result.andThen]
  try rfl
/-! ### places -/
def placeV (g : Int) (k : List UInt8) : Value := .agg #[.int .i64 g, .string ⟨k.toArray⟩]
theorem run_place_eq (w : World) (a b : Int) (x y : List UInt8) : (Op.equal 149 (placeV a x) (placeV b y)).run Tryz.prog w = .ok (decide (a = b ∧ x = y)) w := by
  unfold Op.equal Op.maxDepth placeV
  rw [show (10000 : Nat) = 9999 + 1 from rfl, run_equalIn_agg w 9999 149 _ _ (by kernel_rfl) (by kernel_rfl)]
  simp only [Program.fieldsOf, Tryz.underlying149]
  go_simp
  by_cases q1 : a = b
  case neg => simp [q1]
  by_cases q2 : x = y <;> simp [q1, q2]
theorem run_place_check (w : World) (a : Int) (x : List UInt8) (b : Bool) : (Instr.checkKey b 10000 149 (placeV a x)).run Tryz.prog w = .ok () w := by
  have ci : ∀ (n : Nat) (q : Int), (Instr.checkKey b (n + 1) 3 (.int .i64 q)).run Tryz.prog w = .ok () w := fun n q => MapKept.run_checkKey (d := .int .i64) (by kernel_rfl) (by simp [MapKept.IsKey]) b n
  have cs : ∀ (n : Nat) (q : List UInt8), (Instr.checkKey b (n + 1) 9 (.string ⟨q.toArray⟩)).run Tryz.prog w = .ok () w := fun n q => MapKept.run_checkKey (d := .string) (by kernel_rfl) (by simp [MapKept.IsKey]) b n
  have p1 : (part 3 #[Value.int .i64 a, Value.string ⟨x.toArray⟩] 0).run Tryz.prog w = .ok (.int .i64 a) w := run_part_plain w (by kernel_rfl) rfl
  have p2 : (part 9 #[Value.int .i64 a, Value.string ⟨x.toArray⟩] 1).run Tryz.prog w = .ok (.string ⟨x.toArray⟩) w := run_part_plain w (by kernel_rfl) rfl
  unfold placeV
  rw [show (10000 : Nat) = 9998 + 1 + 1 from rfl]
  rw [Instr.checkKey]
  simp only [Sem.run_bind, run_underlying Tryz.underlying149, Result.andThen]
  rw [← Array.forIn_toList]
  simp only [List.forIn_cons, List.forIn_nil, Sem.run_bind, Sem.run_pure]
  rw [if_pos (by decide), if_pos (by decide)]
  simp only [Sem.run_bind, p1, p2, ci, cs, Result.andThen_ok, Sem.run_pure]
/-- What is found of a place, from the i-th entry on. -/
def findPlace (g : Int) (k : List UInt8) : List (Int × List UInt8 × Int) → Nat → Option (Nat × Value)
  | [], _ => none
  | (a, x, v) :: r, i => if g = a ∧ k = x then some (i, .int .i64 v) else findPlace g k r (i + 1)
def placeE (e : Int × List UInt8 × Int) (b : Nat) : MapEntry := { key := placeV e.1 e.2.1, val := .int .i64 e.2.2, born := b }
theorem run_find_place (w : World) (g : Int) (k : List UInt8) (A : List (Int × List UInt8 × Int)) (es : List MapEntry) (hes : es.map (fun e => (e.key, e.val)) = A.map (fun e => (placeV e.1 e.2.1, Value.int .i64 e.2.2))) :
    (Instr.findKey 149 (placeV g k) es).run Tryz.prog w = .ok (findPlace g k A 0) w := by
  rw [run_findKey_eq w (by kernel_rfl)]
  have : ∀ (A : List (Int × List UInt8 × Int)) (es : List MapEntry) (i : Nat), es.map (fun e => (e.key, e.val)) = A.map (fun e => (placeV e.1 e.2.1, Value.int .i64 e.2.2)) → (Instr.findAsking 149 (placeV g k) es i).run Tryz.prog w = .ok (findPlace g k A i) w := by
    intro A
    induction A with
    | nil => intro es i h; cases es with
      | nil => rfl
      | cons a b => simp at h
    | cons a r ih =>
      intro es i h
      cases es with
      | nil => simp at h
      | cons e es =>
        simp only [List.map_cons, List.cons.injEq, Prod.mk.injEq] at h
        obtain ⟨⟨h1, h2⟩, h3⟩ := h
        obtain ⟨x, y, v⟩ := a
        unfold Instr.findAsking
        simp only [Sem.run_bind, h1, run_place_eq, Result.andThen_ok]
        unfold findPlace
        by_cases hq : g = x ∧ k = y
        · simp [hq, h2]
        · simp [hq, ih es (i + 1) h3]
  exact this A es 0 hes
/-! ### atomic.Int64's Add, in one goroutine -/
theorem run_add64 (w : World) (a : Addr) (n : Int) (h : w.cell? a = some (.int .i64 n)) (hf : w.frozen? a = false) (h0 : 0 ≤ n) (h1 : n < 1000000000) :
    (Extern.Atomic.update (Op.intArith .add) .i64 true #[.pointer (some a), .int .i64 1]).run Tryz.prog w = .ok (.int .i64 (n + 1)) (w.setCell a (.int .i64 (n + 1))) := by
  have hw : IntKind.i64.wrap (n + 1) = n + 1 := by rw [IntKind.wrap_i64]; omega
  change Sem.run Tryz.prog (do
    let b ← asAddr (.pointer (some a))
    let old ← Extern.Atomic.read (.int .i64) b
    let new ← Op.intArith .add .i64 (← asInt old) (← asInt (.int .i64 1))
    store b new .atomic
    pure (if true then new else old)) w = _
  simp [Extern.Atomic.read, asAddr, Op.intArith, asInt, asIntOf, load, store, Sem.run, h, hf, hw, Result.andThen]
theorem run_callAdd (w : World) (a : Addr) (n : Int) (h : w.cell? a = some (.int .i64 n)) (hf : w.frozen? a = false) (h0 : 0 ≤ n) (h1 : n < 1000000000) :
    (callFunc 106 #[.pointer (some a), .int .i64 1]).run Tryz.prog w = .ok (.value (.int .i64 (n + 1))) (w.setCell a (.int .i64 (n + 1))) := by
  rw [run_callFunc_extern Tryz.func106 (by kernel_rfl) (by kernel_rfl) (by kernel_rfl) (e := Extern.Atomic.update (Op.intArith .add) .i64 true) (by kernel_rfl), run_add64 w a n h hf h0 h1]
  rfl
attribute [local irreducible] Calls
theorem atomic_add (g o : Nat) (n : Int) (w : World) (h : w.cell? ⟨g, o, none⟩ = some (.int .i64 n)) (hf : w.frozen? ⟨g, o, none⟩ = false) (h0 : 0 ≤ n) (h1 : n < 1000000000) :
    Calls Tryz.prog 80 #[.pointer (some ⟨g, o, none⟩), .int .i64 1] w (fun e w' => e = .returned (.int .i64 (n + 1)) ∧ w' = w.setCell ⟨g, o, none⟩ (.int .i64 (n + 1))) := by
  have hadd := run_callAdd w ⟨g, o, none⟩ n h hf h0 h1
  go_enter Tryz.func80, Tryz.ntmps80
  go_wp2
  go_ret
  exact ⟨rfl, rfl⟩
end Go.Proofs.YtbafofldgkigmaaGreatDoor
