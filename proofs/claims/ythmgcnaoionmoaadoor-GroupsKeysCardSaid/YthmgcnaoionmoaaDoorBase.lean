/- Words that all walks of this seat share: what a call answers, and how texts of bytes are written. -/
import Derived.Test.YthmgcnaoionmoaaDoorProg
import Derived.WalkKit
import Derived.WalkSpells
import Derived.WalkLawsBesides
import Derived.Lib.Hide
import Derived.Outline
import Derived.Deep.LoopGhost
import Derived.Deep.QuietTactic
import Derived.BigQuiet
import Derived.Lib.ConvBytes
import Derived.Lib.IndexBytes
import Derived.Laws.IdiomStrings
namespace Go.Proofs.YthmgcnaoionmoaaDoor
open Go.RowKit

/-- The call answers v, and the world is as it was. -/
def Same (w : World) (v : Value) (e : Ending) (w' : World) : Prop := e = .returned v ∧ w = w'
/-- The call answers v, and what there was is as it was. -/
def Ret (w : World) (v : Value) (e : Ending) (w' : World) : Prop := e = .returned v ∧ Below w.heap.size w w'

theorem Same.ret {w : World} {v : Value} {e : Ending} {w' : World} (h : Same w v e w') : Ret w v e w' := ⟨h.1, h.2 ▸ Below.refl _ _⟩

@[go_sem] theorem size_mk (l : List UInt8) : (⟨l.toArray⟩ : ByteArray).size = l.length := rfl
@[go_sem] theorem toList_mk (l : List UInt8) : (⟨l.toArray⟩ : ByteArray).data.toList = l := rfl
@[go_sem] theorem getElem_mk (l : List UInt8) (k : Nat) (h : k < (⟨l.toArray⟩ : ByteArray).size) : (⟨l.toArray⟩ : ByteArray)[k]'h = l[k]'h := rfl

@[go_sem high] theorem extract_tail (l : List UInt8) (a : Nat) : (⟨l.toArray⟩ : ByteArray).extract a l.length = ⟨(l.drop a).toArray⟩ := by
  rw [Lib.extract_eq]
  simp [List.take_of_length_le]
@[go_sem] theorem extract_mk (l : List UInt8) (a b : Nat) : (⟨l.toArray⟩ : ByteArray).extract a b = ⟨((l.drop a).take (b - a)).toArray⟩ := by
  rw [Lib.extract_eq]

@[go_sem] theorem append_mk (a b : List UInt8) : (⟨a.toArray⟩ : ByteArray) ++ ⟨b.toArray⟩ = ⟨(a ++ b).toArray⟩ := by
  apply ByteArray.ext
  simp

theorem drop_cons {l : List UInt8} {k : Nat} (h : k < l.length) : l.drop k = l[k] :: l.drop (k + 1) := by
  exact List.drop_eq_getElem_cons h


theorem below_drewN {B : Nat} {a w : World} (h : Below B a w) (n : Nat) : Below B a (w.drewN n) := ⟨h.os, h.tape, h.output, h.size, h.block⟩
theorem frozen_alloc (w : World) (o : Obj) (p : Addr) (h : p.block < w.heap.size) : (w.alloc o).frozen? p = w.frozen? p :=
  ((Below.refl w.heap.size w).alloc (Nat.le_refl _) o).frozen h
theorem cell_alloc (w : World) (o : Obj) (p : Addr) (h : p.block < w.heap.size) : (w.alloc o).cell? p = w.cell? p :=
  ((Below.refl w.heap.size w).alloc (Nat.le_refl _) o).cell h

theorem bcell {W w1 : World} (hb : Below W.heap.size W w1) : (∀ b o, b < W.heap.size → w1.cell? ⟨b, o, none⟩ = W.cell? ⟨b, o, none⟩) ∧ (∀ b o, b < W.heap.size → w1.frozen? ⟨b, o, none⟩ = W.frozen? ⟨b, o, none⟩) :=
  ⟨fun b o h => hb.cell (p := ⟨b, o, none⟩) h, fun b o h => hb.frozen (p := ⟨b, o, none⟩) h⟩

theorem below_thru {B : Nat} {a W w1 : World} (hb : Below W.heap.size W w1) (h : Below B a W) (hB : B ≤ W.heap.size) : Below B a w1 := h.trans (hb.mono hB)

/-! ### A block that is known whole -/
def Blk (w : World) (g : Nat) (t : TypeId) (cs : Array Value) : Prop := w.heap[g]? = some (.cells cs t (0, 0))
theorem Blk.lt {w : World} {g : Nat} {t : TypeId} {cs : Array Value} (h : Blk w g t cs) : g < w.heap.size := (Array.getElem?_eq_some_iff.1 h).1
theorem Blk.cell {w : World} {g : Nat} {t : TypeId} {cs : Array Value} (h : Blk w g t cs) (i : Nat) : w.cell? ⟨g, i, none⟩ = cs[i]? := cell_of_row w g i cs t (0, 0) h
theorem Blk.frozen {w : World} {g : Nat} {t : TypeId} {cs : Array Value} (h : Blk w g t cs) (i : Nat) : w.frozen? ⟨g, i, none⟩ = false := by
  unfold Blk at h
  simp [World.frozen?, h]
theorem Blk.new (w : World) (t : TypeId) (cs : Array Value) : Blk (w.alloc (.cells cs t)) w.heap.size t cs := heap_alloc_new w _
theorem Blk.drewN {w : World} {g : Nat} {t : TypeId} {cs : Array Value} (h : Blk w g t cs) (n : Nat) : Blk (w.drewN n) g t cs := h
theorem Blk.alloc {w : World} {g : Nat} {t : TypeId} {cs : Array Value} (h : Blk w g t cs) (o : Obj) : Blk (w.alloc o) g t cs := (Below.heap_alloc w o g h.lt).trans h
theorem Blk.set_ {w : World} {g : Nat} {t : TypeId} {cs : Array Value} (h : Blk w g t cs) (i : Nat) (u : Value) : Blk (w.setCell ⟨g, i, none⟩ u) g t (cs.setIfInBounds i u) := by
  unfold Blk at h ⊢
  simp [World.setCell, Array.getElem?_modify, h]
theorem Blk.far {w : World} {g : Nat} {t : TypeId} {cs : Array Value} (h : Blk w g t cs) {p : Addr} (hp : g ≠ p.block) (u : Value) : Blk (w.setCell p u) g t cs := (Below.heap_setCell w p u g hp).trans h
theorem Blk.below {w w' : World} {g : Nat} {t : TypeId} {cs : Array Value} {B : Nat} (h : Blk w g t cs) (hb : Below B w w') (hg : g < B) : Blk w' g t cs := (hb.block g hg).trans h

/-! ### A buffer of bytes that the call itself made -/
def Buf (w : World) (g : Nat) (l : List UInt8) : Prop :=
  (∀ k, (h : k < l.length) → w.cell? ⟨g, k, none⟩ = some (.int .u8 (l[k].toNat : Int))) ∧ (∀ k, k < l.length → w.frozen? ⟨g, k, none⟩ = false)
theorem Buf.cell {w : World} {g : Nat} {l : List UInt8} (h : Buf w g l) (k : Nat) (hk : k < l.length) : w.cell? ⟨g, k, none⟩ = some (.int .u8 (l[k].toNat : Int)) := h.1 k hk
theorem Buf.free {w : World} {g : Nat} {l : List UInt8} (h : Buf w g l) (k : Nat) (hk : k < l.length) : w.frozen? ⟨g, k, none⟩ = false := h.2 k hk
theorem Buf.set {w : World} {g : Nat} {l : List UInt8} (h : Buf w g l) (k : Nat) (hk : k < l.length) (c : UInt8) : Buf (w.setCell ⟨g, k, none⟩ (.int .u8 (c.toNat : Int))) g (l.set k c) := by
  refine ⟨fun j hj => ?_, fun j hj => ?_⟩
  · rw [List.length_set] at hj
    by_cases e : k = j
    · subst e
      rw [World.cell?_setCell_same' _ _ _ (by rw [h.1 k hk]; rfl)]
      simp
    · rw [World.cell?_setCell_other _ _ _ _ (by intro e'; injection e' with _ e2; exact e e2), h.1 j hj, List.getElem_set_ne e]
  · rw [List.length_set] at hj
    rw [World.frozen?_setCell]
    exact h.2 j hj
theorem Buf.back {P : Program} {w : World} {g : Nat} {l : List UInt8} (h : Buf w g l) (src dst e : TypeId) (cap : Nat) (hs : P.underlying src = some (.slice e)) (he : P.underlying e = some (.int .u8)) (hd : P.underlying dst = some .string) :
    (convert src dst (.slice (some ⟨g, 0, none⟩) l.length cap)).run P w = .ok (.string ⟨l.toArray⟩) w :=
  run_convert_bytes_back w src dst e ⟨g, 0, none⟩ cap l hs he hd (fun j hj => by
    have : (⟨g, 0, none⟩ : Addr).add j = ⟨g, j, none⟩ := by unfold Addr.add; split <;> simp_all
    rw [this]; exact h.1 j hj)


/-! ### Slices of texts -/
def str (x : List UInt8) : Value := .string ⟨x.toArray⟩
def strs (L : List (List UInt8)) : List Value := L.map str
/-- The slice v reads as the texts L; its cells lie below block B. -/
def Strs (w : World) (B : Nat) (v : Value) (L : List (List UInt8)) : Prop :=
  ∃ A c, v = .slice A L.length c ∧ L.length ≤ c ∧ c ≤ maxLen ∧ (0 < L.length → ∃ b o, A = some ⟨b, o, none⟩ ∧ b < B ∧ ∀ j, (h : j < L.length) → w.cell? ⟨b, o + j, none⟩ = some (.string ⟨(L[j]).toArray⟩))
theorem Strs.keep {w w' : World} {B : Nat} {v : Value} {L : List (List UInt8)} (h : Strs w B v L) (hb : Below B w w') : Strs w' B v L := by
  obtain ⟨A, c, hv, h1, h2, h3⟩ := h
  refine ⟨A, c, hv, h1, h2, fun h0 => ?_⟩
  obtain ⟨b, o, hA, hB, hc⟩ := h3 h0
  exact ⟨b, o, hA, hB, fun j hj => (hb.cell (p := ⟨b, o + j, none⟩) hB).trans (hc j hj)⟩
theorem Strs.more {w : World} {B B' : Nat} {v : Value} {L : List (List UInt8)} (h : Strs w B v L) (hb : B ≤ B') : Strs w B' v L := by
  obtain ⟨A, c, hv, h1, h2, h3⟩ := h
  refine ⟨A, c, hv, h1, h2, fun h0 => ?_⟩
  obtain ⟨b, o, hA, hB, hc⟩ := h3 h0
  exact ⟨b, o, hA, by omega, hc⟩
theorem Strs.at_ {w : World} {B : Nat} {v : Value} {L : List (List UInt8)} (h : Strs w B v L) : ∃ b o c, L.length ≤ c ∧ c ≤ maxLen ∧ (0 < L.length → b < B) ∧ (0 < L.length → v = .slice (some ⟨b, o, none⟩) L.length c) ∧ (L.length = 0 → ∃ A, v = .slice A 0 c) ∧ (∀ j, (h : j < L.length) → w.cell? ⟨b, o + j, none⟩ = some (.string ⟨(L[j]).toArray⟩)) := by
  obtain ⟨A, c, hv, h1, h2, h3⟩ := h
  by_cases h0 : 0 < L.length
  · obtain ⟨b, o, rfl, hB, hc⟩ := h3 h0
    exact ⟨b, o, c, h1, h2, fun _ => hB, fun _ => hv, fun e => by omega, hc⟩
  · have e : L.length = 0 := by omega
    exact ⟨0, 0, c, h1, h2, fun h => absurd h h0, fun h => absurd h h0, fun _ => ⟨A, by rw [hv, e]⟩, fun j hj => by omega⟩
/-- The call itself made the slice v, which reads as the texts L; its row lies from block B on. -/
def Own (w : World) (B : Nat) (v : Value) (L : List (List UInt8)) : Prop := w.ownsRow B 9 1 v L.length (strs L)
theorem Own.nil (w : World) (B : Nat) : Own w B (.slice none 0 0) [] := World.ownsRow_nil w B _ 1
theorem Own.alloc {w : World} {B : Nat} {v : Value} {L : List (List UInt8)} (h : Own w B v L) (o : Obj) : Own (w.alloc o) B v L := World.ownsRow.alloc h o
theorem Own.strs {w : World} {B : Nat} {v : Value} {L : List (List UInt8)} (h : Own w B v L) : Strs w w.heap.size v L := by
  have hc := h
  unfold Own World.ownsRow at h
  obtain ⟨hl, h⟩ := h
  rcases h with ⟨rfl, h0⟩ | ⟨g, cap, cur, rfl, hB, hh, h1, h2, h3, h4⟩
  · exact ⟨none, 0, by rw [h0], by omega, by unfold maxLen; omega, fun h => by omega⟩
  · refine ⟨_, cap, rfl, h1, h2, fun h0 => ⟨g, 0, rfl, ?_, fun j hj => ?_⟩⟩
    · exact (Array.getElem?_eq_some_iff.1 hh).1
    · have := World.ownsRow.cells hc (g := g) rfl j (.string ⟨(L[j]).toArray⟩) (by simp [Go.Proofs.YthmgcnaoionmoaaDoor.strs, str, hj])
      have e : (⟨g, 0, none⟩ : Addr).add j = ⟨g, 0 + j, none⟩ := by unfold Addr.add; split <;> simp_all
      rw [e] at this
      exact this
theorem Own.form {w : World} {B : Nat} {v : Value} {L : List (List UInt8)} (h : Own w B v L) : ∃ A n c, v = .slice A n c := by
  obtain ⟨A, c, hv, _⟩ := h.strs
  exact ⟨A, _, c, hv⟩
theorem strs_append (L M : List (List UInt8)) : strs (L ++ M) = strs L ++ strs M := by simp [strs]
theorem Own.keep {w w' : World} {B B' : Nat} {v : Value} {L : List (List UInt8)} (h : Own w B v L) (hb : Below B' w w') (hB : w.heap.size ≤ B') : Own w' B v L :=
  World.ownsRow.kept h (row := none) ⟨hb.os, hb.tape, hb.output, hb.size, fun k hk _ => hb.block k (by omega)⟩ (by cases v.ownBlock <;> simp)

theorem Own.mono {w : World} {B B' : Nat} {v : Value} {L : List (List UInt8)} (h : Own w B v L) (hB : B' ≤ B) : Own w B' v L := by
  obtain ⟨h1, h2⟩ := h
  refine ⟨h1, ?_⟩
  rcases h2 with h2 | ⟨g, cap, cur, hv, hg, r⟩
  · exact Or.inl h2
  · exact Or.inr ⟨g, cap, cur, hv, by omega, r⟩
theorem Own.at_ {w : World} {B : Nat} {v : Value} {L : List (List UInt8)} (h : Own w B v L) : ∃ b c, L.length ≤ c ∧ c ≤ maxLen ∧ (0 < L.length → B ≤ b ∧ b < w.heap.size) ∧ (0 < L.length → v = .slice (some ⟨b, 0, none⟩) L.length c) ∧ (L.length = 0 → ∃ A c, v = .slice A 0 c) ∧ (∀ j, (h : j < L.length) → w.cell? ⟨b, j, none⟩ = some (.string ⟨(L[j]).toArray⟩)) := by
  have hs := h.strs
  obtain ⟨hl, h⟩ := h
  rcases h with ⟨rfl, h0⟩ | ⟨g, cap, cur, rfl, hB, hh, h1, h2, h3, h4⟩
  · exact ⟨0, L.length, Nat.le_refl _, by rw [h0]; unfold maxLen; omega, fun h => by omega, fun h => by omega, fun _ => ⟨none, 0, rfl⟩, fun j hj => by omega⟩
  · refine ⟨g, cap, h1, h2, fun _ => ⟨hB, (Array.getElem?_eq_some_iff.1 hh).1⟩, fun _ => rfl, fun e => ⟨_, _, by rw [e]⟩, fun j hj => ?_⟩
    obtain ⟨A, c, hv, _, _, h7⟩ := hs
    obtain ⟨b, o, hA, _, hc⟩ := h7 (by omega)
    injection hv with hv1
    rw [← hv1] at hA
    injection hA with hA
    injection hA with e1 e2
    have := hc j hj
    rw [← e1, ← e2, Nat.zero_add] at this
    exact this
/-- The call answers texts in a row of its own, and what there was is as it was. -/
def RetStrs (w : World) (L : List (List UInt8)) (e : Ending) (w' : World) : Prop := ∃ v, e = .returned v ∧ Own w' w.heap.size v L ∧ Below w.heap.size w w'

theorem Tryd.infoStr : (Tryd.prog.info? 9).map (fun i => (i.zero, i.size, i.bytes)) = some (some (.string ⟨#[]⟩), 1, 16) := by kernel_rfl
/-- 'append(out, x)', out being of the call's own. -/
theorem wpList_app {ops : Array Oper} {rest : List Oper} {o : Oper} {a : Act} {w : World} {Q : Exit → Act → World → Prop} (hgd : o.guard = none) (s x : Operand)
    (ho : o.op = .call { callee := .builtin .append, args := #[s, x], argTypes := #[36, 36] })
    (B : Nat) (L : List (List UInt8)) (v : Value) (hs : a.eval s = v) (hown : Own w B v L) (y : List UInt8) (g : Nat) (hx : a.eval x = .slice (some ⟨g, 0, none⟩) 1 1)
    (hc : w.cell? ⟨g, 0, none⟩ = some (.string ⟨y.toArray⟩)) (h63 : L.length ≤ 1099511627776) (hB : B ≤ w.heap.size)
    (h : ∀ v' w', Own w' B v' (L ++ [y]) → Below B w w' → wpList Tryd.prog ops Q rest (a.put o.dst v') w') : wpList Tryd.prog ops Q (o :: rest) a w := by
  obtain ⟨i0, hi, hz0, hz1, hz2⟩ := info_parts Tryd.infoStr
  refine wpList_append_own _ hgd s x 36 ho B 9 i0 (.string ⟨#[]⟩) 1 16 Tryd.underlying36 hi hz0 hz1 hz2 rfl (by decide) v L.length (Go.Proofs.YthmgcnaoionmoaaDoor.strs L) hs hown ⟨g, 0, none⟩ 1 1 [str y] hx rfl ?_ (by simp [str, Value.oneCell']) (by unfold maxLen; omega) (by omega) hB ?_
  · intro j u hj
    match j, hj with
    | 0, hj =>
      have e : (⟨g, 0, none⟩ : Addr).add 0 = ⟨g, 0, none⟩ := by simp [Addr.add]
      rw [e, hc]
      simpa [str] using hj
  · intro v' w' h1 h2 _
    refine h v' w' ?_ ?_
    · unfold Own
      rw [strs_append, List.length_append]
      exact h1
    · refine (Below.refl B w).grown h2 hB (fun k hk => ?_)
      exact (World.ownsRow.lt hown k hk).1

end Go.Proofs.YthmgcnaoionmoaaDoor
