/- embedhdr.Corp, glacisref09.Corp: resource policies. -/
import Derived.Test.YtbafofldgkigmaaGreatDoorRefHeads
import Derived.MapKept
import Derived.Carry
namespace Go.Proofs.YtbafofldgkigmaaGreatDoor
open Go.RowKit
attribute [local irreducible] Calls
theorem look_at {P : Program} (w : World) (mty kt et : TypeId) (r : Nat) (k : Value) (es : Array MapEntry) (clock : Nat) (z : Value) (res : Option (Nat × Value)) (hm : P.underlying mty = some (.map kt et))
    (hz : (zeroValue et).run P w = .ok z w) (hb : w.heap[r]? = some (.map es clock)) (hc : ∀ b, (Instr.checkKey b 10000 kt k).run P w = .ok () w) (hf : (Instr.findKey kt k es.toList).run P w = .ok res w) :
    (Instr.lookup mty (.map (some r)) k false).run P w = .ok ((res.map (·.2)).getD z) w := by
  cases res with
  | none => simp [Instr.lookup, run_underlying hm, MapKept.run_getObj_map hb, hc, hf, hz, Result.andThen]
  | some x => simp [Instr.lookup, run_underlying hm, MapKept.run_getObj_map hb, hc, hf, Result.andThen]
theorem lay_at {P : Program} (w : World) (mty kt et : TypeId) (r : Nat) (k val : Value) (es : Array MapEntry) (clock : Nat) (hm : P.underlying mty = some (.map kt et))
    (hb : w.heap[r]? = some (.map es clock)) (hc : ∀ b, (Instr.checkKey b 10000 kt k).run P w = .ok () w) (hf : (Instr.findKey kt k es.toList).run P w = .ok none w) :
    (Instr.mapUpdate mty (.map (some r)) k val).run P w = .ok () (w.putObj r (.map (es.push { key := k, val := val, born := clock }) (clock + 1))) := by
  simp [Instr.mapUpdate, run_underlying hm, MapKept.run_getObj_map hb, hc, hf, MapKept.run_setObj_map _ hb, Result.andThen]
  rfl
/-- What is found of a text among entries. -/
def findS (s : List UInt8) : List (List UInt8 × Value) → Nat → Option (Nat × Value)
  | [], _ => none
  | (a, v) :: r, i => if s = a then some (i, v) else findS s r (i + 1)
theorem ba_same (a b : List UInt8) : ((⟨a.toArray⟩ : ByteArray) == ⟨b.toArray⟩) = decide (a = b) := by
  have e : ((⟨a.toArray⟩ : ByteArray) == ⟨b.toArray⟩) = (a.toArray == b.toArray) := rfl
  rw [e]
  by_cases h : a = b
  · subst h; simp
  · rw [decide_eq_false h, beq_eq_false_iff_ne]
    intro e
    exact h (by simpa using e)
theorem findNow_str (n : List UInt8) (L : List (List UInt8 × Value)) (es : List MapEntry) (i : Nat) (h : es.map (fun e => (e.key, e.val)) = L.map (fun e => ((Value.string ⟨(e.1).toArray⟩), e.2))) : Instr.findNow .string ((Value.string ⟨(n).toArray⟩)) es i = some (findS n L i) := by
  induction L generalizing es i with
  | nil => cases es with
    | nil => rfl
    | cons a b => simp at h
  | cons a r ih =>
    cases es with
    | nil => simp at h
    | cons e es =>
      simp only [List.map_cons, List.cons.injEq, Prod.mk.injEq] at h
      obtain ⟨⟨h1, h2⟩, h3⟩ := h
      obtain ⟨x, v⟩ := a
      unfold Instr.findNow findS
      simp only [h1, Instr.sameNow]
      by_cases q : n = x
      · subst q
        simp [h2, ba_same]
      · have hq : ((⟨n.toArray⟩ : ByteArray) == ⟨x.toArray⟩) = false := by rw [ba_same, decide_eq_false q]
        simp [hq, q, ih es (i + 1) h3]
def Gl.corpName : List UInt8 := [99, 114, 111, 115, 115, 45, 111, 114, 105, 103, 105, 110, 45, 114, 101, 115, 111, 117, 114, 99, 101, 45, 112, 111, 108, 105, 99, 121]
def Gl.cSame : List UInt8 := [115, 97, 109, 101, 45, 111, 114, 105, 103, 105, 110]
def Gl.cSite : List UInt8 := [115, 97, 109, 101, 45, 115, 105, 116, 101]
def Gl.cAny : List UInt8 := [99, 114, 111, 115, 115, 45, 111, 114, 105, 103, 105, 110]
def Gl.corpOf (s : List UInt8) : Int := if s = Gl.cSame then 1 else if s = Gl.cSite then 2 else if s = Gl.cAny then 3 else 0
def Gl.corp (L : List Gl.Head) : Int := Gl.corpOf (Gl.combined L Gl.corpName)
set_option maxRecDepth 100000 in
set_option maxHeartbeats 2000000 in
theorem embedhdr_corp (v : Value) (L : List Gl.Head) (w : World) (hv : Heads w v L) (hL : ∀ h ∈ L, HeadFit h) (hLl : L.length ≤ 1000000) : Calls Tryz.prog 56 #[v] w (Ret w (.int .i64 (Gl.corp L))) := by
  have h1 : Calls Tryz.prog 60 #[v, .string ⟨#[99, 114, 111, 115, 115, 45, 111, 114, 105, 103, 105, 110, 45, 114, 101, 115, 111, 117, 114, 99, 101, 45, 112, 111, 108, 105, 99, 121]⟩] w (Ret w (.tuple #[(Value.string ⟨(Gl.combined L Gl.corpName).toArray⟩), .bool (decide (0 < (Gl.values L Gl.corpName).length))])) := headers_combined v L Gl.corpName w hv hL hLl (by decide)
  unfold Gl.corp Gl.corpOf
  obtain ⟨A, c, rfl⟩ := hv.form
  generalize Gl.combined L Gl.corpName = J at *
  generalize decide (0 < (Gl.values L Gl.corpName).length) = q at *
  replace h1 := Lib.hid h1
  clear hv hL
  unfold Gl.cSame Gl.cSite Gl.cAny
  obtain ⟨X1, X2, X3, hx1, hx2, hx3, hlk, hB⟩ : ∃ X1 X2 X3 : World → World, (∀ W : World, (Instr.mapUpdate 99 (.map (some W.heap.size)) (.string ⟨#[115, 97, 109, 101, 45, 111, 114, 105, 103, 105, 110]⟩) (.int .i64 1)).run Tryz.prog (W.alloc (.map #[] 0)) = .ok () (X1 W)) ∧
      (∀ W : World, (Instr.mapUpdate 99 (.map (some W.heap.size)) (.string ⟨#[115, 97, 109, 101, 45, 115, 105, 116, 101]⟩) (.int .i64 2)).run Tryz.prog (X1 W) = .ok () (X2 W)) ∧
      (∀ W : World, (Instr.mapUpdate 99 (.map (some W.heap.size)) (.string ⟨#[99, 114, 111, 115, 115, 45, 111, 114, 105, 103, 105, 110]⟩) (.int .i64 3)).run Tryz.prog (X2 W) = .ok () (X3 W)) ∧
      (∀ W : World, (Instr.lookup 99 (.map (some W.heap.size)) ((Value.string ⟨(J).toArray⟩)) false).run Tryz.prog (X3 W) = .ok (.int .i64 (if J = [115, 97, 109, 101, 45, 111, 114, 105, 103, 105, 110] then 1 else if J = [115, 97, 109, 101, 45, 115, 105, 116, 101] then 2 else if J = [99, 114, 111, 115, 115, 45, 111, 114, 105, 103, 105, 110] then 3 else 0)) (X3 W)) ∧ ∀ W : World, Below W.heap.size W (X3 W) := by
    have hck : ∀ (q : List UInt8) (W : World) (b : Bool), (Instr.checkKey b 10000 9 ((Value.string ⟨(q).toArray⟩))).run Tryz.prog W = .ok () W := fun q W b => MapKept.run_checkKey (d := .string) (by kernel_rfl) (by simp [MapKept.IsKey]) b 9999
    have hfk : ∀ (q : List UInt8) (W : World) (es : Array MapEntry) (L : List (List UInt8 × Value)), es.toList.map (fun e => (e.key, e.val)) = L.map (fun e => ((Value.string ⟨(e.1).toArray⟩), e.2)) → (Instr.findKey 9 ((Value.string ⟨(q).toArray⟩)) es.toList).run Tryz.prog W = .ok (findS q L 0) W := fun q W es L h => MapKept.run_findKey (d := .string) (by kernel_rfl) (findNow_str q L _ 0 h)
    have hset : ∀ (W : World) (r : Nat) (o o' : Obj), W.heap[r]? = some o → (W.putObj r o').heap[r]? = some o' := fun W r o o' h => by
      have hlt := (Array.getElem?_eq_some_iff.1 h).1
      simp [World.putObj, hlt]
    have g0 : ∀ W : World, (W.alloc (.map #[] 0)).heap[W.heap.size]? = some (.map #[] 0) := fun W => World.alloc_heap_new W _
    let e1 : MapEntry := { key := .string ⟨#[115, 97, 109, 101, 45, 111, 114, 105, 103, 105, 110]⟩, val := .int .i64 1, born := 0 }
    let e2 : MapEntry := { key := .string ⟨#[115, 97, 109, 101, 45, 115, 105, 116, 101]⟩, val := .int .i64 2, born := 1 }
    let e3 : MapEntry := { key := .string ⟨#[99, 114, 111, 115, 115, 45, 111, 114, 105, 103, 105, 110]⟩, val := .int .i64 3, born := 2 }
    let X1 : World → World := fun W => (W.alloc (.map #[] 0)).putObj W.heap.size (.map #[e1] 1)
    let X2 : World → World := fun W => (X1 W).putObj W.heap.size (.map #[e1, e2] 2)
    let X3 : World → World := fun W => (X2 W).putObj W.heap.size (.map #[e1, e2, e3] 3)
    have g1 : ∀ W : World, (X1 W).heap[W.heap.size]? = some (.map #[e1] 1) := fun W => hset _ _ _ _ (g0 W)
    have g2 : ∀ W : World, (X2 W).heap[W.heap.size]? = some (.map #[e1, e2] 2) := fun W => hset _ _ _ _ (g1 W)
    have g3 : ∀ W : World, (X3 W).heap[W.heap.size]? = some (.map #[e1, e2, e3] 3) := fun W => hset _ _ _ _ (g2 W)
    refine ⟨X1, X2, X3, fun W => ?_, fun W => ?_, fun W => ?_, fun W => ?_, fun W => ?_⟩
    · exact lay_at _ 99 9 3 _ ((Value.string ⟨(Gl.cSame).toArray⟩)) _ #[] 0 Tryz.underlying99 (g0 W) (hck Gl.cSame _) (hfk Gl.cSame _ #[] [] rfl)
    · exact lay_at _ 99 9 3 _ ((Value.string ⟨(Gl.cSite).toArray⟩)) _ #[e1] 1 Tryz.underlying99 (g1 W) (hck Gl.cSite _) ((hfk Gl.cSite _ #[e1] [(Gl.cSame, .int .i64 1)] rfl).trans (by rfl))
    · exact lay_at _ 99 9 3 _ ((Value.string ⟨(Gl.cAny).toArray⟩)) _ #[e1, e2] 2 Tryz.underlying99 (g2 W) (hck Gl.cAny _) ((hfk Gl.cAny _ #[e1, e2] [(Gl.cSame, .int .i64 1), (Gl.cSite, .int .i64 2)] rfl).trans (by rfl))
    · have h := look_at (P := Tryz.prog) (X3 W) 99 9 3 W.heap.size ((Value.string ⟨(J).toArray⟩)) #[e1, e2, e3] 3 (.int .i64 0) _ Tryz.underlying99 (by kernel_rfl) (g3 W) (hck J _) (hfk J _ #[e1, e2, e3] [(Gl.cSame, .int .i64 1), (Gl.cSite, .int .i64 2), (Gl.cAny, .int .i64 3)] rfl)
      rw [h]
      simp only [findS, Gl.cSame, Gl.cSite, Gl.cAny]
      by_cases a1 : J = [115, 97, 109, 101, 45, 111, 114, 105, 103, 105, 110]
      · simp [a1]
      · by_cases a2 : J = [115, 97, 109, 101, 45, 115, 105, 116, 101]
        · simp [a2]
        · by_cases a3 : J = [99, 114, 111, 115, 115, 45, 111, 114, 105, 103, 105, 110]
          · simp [a3]
          · simp [a1, a2, a3]
    · have hb1 : Below W.heap.size W (W.alloc (.map #[] 0)) := (Below.refl _ _).alloc (Nat.le_refl _) _
      have hp : ∀ (A B : World) (o' : Obj), Below W.heap.size A B → A.heap.size ≤ B.heap.size → W.heap.size ≤ B.heap.size → Below W.heap.size A (B.putObj W.heap.size o') := fun A B o' h _ hs => h.grown (grownBy_putObj' B W.heap.size o') hs (fun k e => by cases e; exact Nat.le_refl _)
      have hs1 := hb1.size
      have b1 := hp W _ (.map #[e1] 1) hb1 hs1 hs1
      have b2 := hp W _ (.map #[e1, e2] 2) b1 b1.size b1.size
      exact hp W _ (.map #[e1, e2, e3] 3) b2 b2.size b2.size
  generalize (if J = [115, 97, 109, 101, 45, 111, 114, 105, 103, 105, 110] then (1 : Int) else if J = [115, 97, 109, 101, 45, 115, 105, 116, 101] then 2 else if J = [99, 114, 111, 115, 115, 45, 111, 114, 105, 103, 105, 110] then 3 else 0) = K at *
  have hmm := @run_makeMap Tryz.prog
  go_enter Tryz.func56, Tryz.ntmps56
  go_wp2_with (go_at_call 60; refine (h1.out).mono ?_; rintro e w1 ⟨rfl, hb⟩; obtain ⟨hc, hfz⟩ := bcell hb; have hz := hb.size; (try simp at hz); (try have hz0 := lt_ hb w.heap.size); (try have hz1 := lt_ hb (w.heap.size + 1)); (try have hz2 := lt_ hb (w.heap.size + 2)); (try have hz3 := lt_ hb (w.heap.size + 3)); (try have hcA := fun o => hc w.heap.size o sz_); (try have hcB := fun o => hc (w.heap.size + 1) o sz_))
  go_ret
  exact ⟨rfl, below_thru (hB _) (bw_) (by omega)⟩
end Go.Proofs.YtbafofldgkigmaaGreatDoor
