/- Words that all walks of this seat share: what a call answers, and how texts of bytes are written. A row of texts of the call's own, cut. What the functions of layers 1 to 3 compute, as plain functions on lists of bytes. No Go in it. What the functions of glacisref01 compute: each call answers what the plain function of XSpec says. The smaller functions of glacisref02 and glacisref03. The rest of the smaller functions of glacisref03. Split of the reference and of the program: the parts of a text between a byte. Lower, of the program and of the reference: A to Z are made small. octet.Split: the parts of a text between a byte; the closures that it is made of. The bytes up to 32 at a text's ends are taken off. The smaller functions of package host. -/
import Derived.Test.YtbafofldgkigmaaGreatDoorProg
import Derived.WalkKit
import Derived.WalkSpells
import Derived.WalkLawsBesides
import Derived.Lib.Hide
import Derived.Outline
import Derived.Deep.LoopGhost
import Derived.Deep.QuietTactic
import Derived.BigQuiet
import Derived.Lib.ConvBytes
import Derived.Lib.IndexBytes
import Derived.Laws.IdiomStrings
import Derived.Lib.ItoaNum
import Derived.Lib.Join
import Derived.Deep.DeepCutAuto
import Derived.Deep.CutBlock
namespace Go.Proofs.YtbafofldgkigmaaGreatDoor
open Go.RowKit

/-- The call answers v, and the world is as it was. -/
def Same (w : World) (v : Value) (e : Ending) (w' : World) : Prop := e = .returned v ∧ w = w'
/-- The call answers v, and what there was is as it was. -/
def Ret (w : World) (v : Value) (e : Ending) (w' : World) : Prop := e = .returned v ∧ Below w.heap.size w w'

theorem Same.ret {w : World} {v : Value} {e : Ending} {w' : World} (h : Same w v e w') : Ret w v e w' := ⟨h.1, h.2 ▸ Below.refl _ _⟩

@[go_sem] theorem size_mk (l : List UInt8) : (⟨l.toArray⟩ : ByteArray).size = l.length := rfl
@[go_sem] theorem toList_mk (l : List UInt8) : (⟨l.toArray⟩ : ByteArray).data.toList = l := rfl
@[go_sem] theorem getElem_mk (l : List UInt8) (k : Nat) (h : k < (⟨l.toArray⟩ : ByteArray).size) : (⟨l.toArray⟩ : ByteArray)[k]'h = l[k]'h := rfl

@[go_sem high] theorem extract_tail (l : List UInt8) (a : Nat) : (⟨l.toArray⟩ : ByteArray).extract a l.length = ⟨(l.drop a).toArray⟩ := by
  rw [Lib.extract_eq]
  simp [List.take_of_length_le]
@[go_sem] theorem extract_mk (l : List UInt8) (a b : Nat) : (⟨l.toArray⟩ : ByteArray).extract a b = ⟨((l.drop a).take (b - a)).toArray⟩ := by
  rw [Lib.extract_eq]

@[go_sem] theorem append_mk (a b : List UInt8) : (⟨a.toArray⟩ : ByteArray) ++ ⟨b.toArray⟩ = ⟨(a ++ b).toArray⟩ := by
  apply ByteArray.ext
  simp

theorem drop_cons {l : List UInt8} {k : Nat} (h : k < l.length) : l.drop k = l[k] :: l.drop (k + 1) := by
  exact List.drop_eq_getElem_cons h


theorem below_drewN {B : Nat} {a w : World} (h : Below B a w) (n : Nat) : Below B a (w.drewN n) := ⟨h.os, h.tape, h.output, h.size, h.block⟩
theorem frozen_alloc (w : World) (o : Obj) (p : Addr) (h : p.block < w.heap.size) : (w.alloc o).frozen? p = w.frozen? p :=
  ((Below.refl w.heap.size w).alloc (Nat.le_refl _) o).frozen h
theorem cell_alloc (w : World) (o : Obj) (p : Addr) (h : p.block < w.heap.size) : (w.alloc o).cell? p = w.cell? p :=
  ((Below.refl w.heap.size w).alloc (Nat.le_refl _) o).cell h

theorem bcell {W w1 : World} (hb : Below W.heap.size W w1) : (∀ b o, b < W.heap.size → w1.cell? ⟨b, o, none⟩ = W.cell? ⟨b, o, none⟩) ∧ (∀ b o, b < W.heap.size → w1.frozen? ⟨b, o, none⟩ = W.frozen? ⟨b, o, none⟩) :=
  ⟨fun b o h => hb.cell (p := ⟨b, o, none⟩) h, fun b o h => hb.frozen (p := ⟨b, o, none⟩) h⟩

theorem below_thru {B : Nat} {a W w1 : World} (hb : Below W.heap.size W w1) (h : Below B a W) (hB : B ≤ W.heap.size) : Below B a w1 := h.trans (hb.mono hB)

/-! ### A block that is known whole -/
def Blk (w : World) (g : Nat) (t : TypeId) (cs : Array Value) : Prop := w.heap[g]? = some (.cells cs t (0, 0))
theorem Blk.lt {w : World} {g : Nat} {t : TypeId} {cs : Array Value} (h : Blk w g t cs) : g < w.heap.size := (Array.getElem?_eq_some_iff.1 h).1
theorem Blk.cell {w : World} {g : Nat} {t : TypeId} {cs : Array Value} (h : Blk w g t cs) (i : Nat) : w.cell? ⟨g, i, none⟩ = cs[i]? := cell_of_row w g i cs t (0, 0) h
theorem Blk.frozen {w : World} {g : Nat} {t : TypeId} {cs : Array Value} (h : Blk w g t cs) (i : Nat) : w.frozen? ⟨g, i, none⟩ = false := by
  unfold Blk at h
  simp [World.frozen?, h]
theorem Blk.new (w : World) (t : TypeId) (cs : Array Value) : Blk (w.alloc (.cells cs t)) w.heap.size t cs := heap_alloc_new w _
theorem Blk.drewN {w : World} {g : Nat} {t : TypeId} {cs : Array Value} (h : Blk w g t cs) (n : Nat) : Blk (w.drewN n) g t cs := h
theorem Blk.alloc {w : World} {g : Nat} {t : TypeId} {cs : Array Value} (h : Blk w g t cs) (o : Obj) : Blk (w.alloc o) g t cs := (Below.heap_alloc w o g h.lt).trans h
theorem Blk.set_ {w : World} {g : Nat} {t : TypeId} {cs : Array Value} (h : Blk w g t cs) (i : Nat) (u : Value) : Blk (w.setCell ⟨g, i, none⟩ u) g t (cs.setIfInBounds i u) := by
  unfold Blk at h ⊢
  simp [World.setCell, Array.getElem?_modify, h]
theorem Blk.far {w : World} {g : Nat} {t : TypeId} {cs : Array Value} (h : Blk w g t cs) {p : Addr} (hp : g ≠ p.block) (u : Value) : Blk (w.setCell p u) g t cs := (Below.heap_setCell w p u g hp).trans h
theorem Blk.below {w w' : World} {g : Nat} {t : TypeId} {cs : Array Value} {B : Nat} (h : Blk w g t cs) (hb : Below B w w') (hg : g < B) : Blk w' g t cs := (hb.block g hg).trans h
theorem Blk.drew_ {w : World} {g : Nat} {t : TypeId} {cs : Array Value} (h : Blk w g t cs) : Blk w.drew g t cs := h
/-! ### What is shown the same way again and again -/
theorem om_ {p : Prop} (h : p := by omega) : p := h
theorem sz_ {p : Prop} (h : p := by first | omega | (simp; done) | (simp; omega)) : p := h
theorem bw_ {p : Prop} (h : p := by repeat' first | (with_reducible exact Below.refl _ _) | (with_reducible assumption) | (with_reducible refine Below.setCell ?_ (sz_) _) | (with_reducible refine Below.alloc ?_ (sz_) _) | refine below_drewN ?_ _ | refine Below.drew ?_ | (refine below_thru (by assumption) ?_ (sz_)) | exact Below.refl _ _) : p := h
theorem bk_ {p : Prop} (h : p := by repeat' first | (with_reducible assumption) | (with_reducible exact Blk.new _ _ _) | (with_reducible refine Blk.drew_ ?_) | (with_reducible refine Blk.alloc ?_ _) | (refine Blk.below ?_ (by assumption) (sz_))) : p := h
theorem bks_ {p : Prop} (h : p := by repeat' first | (with_reducible assumption) | (with_reducible exact Blk.new _ _ _) | (with_reducible refine Blk.far ?_ (sz_) _) | (with_reducible refine Blk.drew_ ?_) | (with_reducible refine Blk.alloc ?_ _) | (refine Blk.below ?_ (by assumption) (sz_))) : p := h
/-- A cell, its mark and its place behind a call. -/
theorem cf_ {W w1 : World} (hb : Below W.heap.size W w1) (k : Nat) (h : k < W.heap.size := by first | omega | (simp; done) | (simp; omega)) : (∀ o, w1.cell? ⟨k, o, none⟩ = W.cell? ⟨k, o, none⟩) ∧ (∀ o, w1.frozen? ⟨k, o, none⟩ = W.frozen? ⟨k, o, none⟩) ∧ k < w1.heap.size :=
  ⟨fun o => hb.cell (p := ⟨k, o, none⟩) h, fun o => hb.frozen (p := ⟨k, o, none⟩) h, Nat.lt_of_lt_of_le h hb.size⟩
theorem lt_ {W w1 : World} (hb : Below W.heap.size W w1) (k : Nat) (h : k < W.heap.size := by first | omega | (simp; done) | (simp; omega)) : k < w1.heap.size := Nat.lt_of_lt_of_le h hb.size

/-! ### A buffer of bytes that the call itself made -/
def Buf (w : World) (g : Nat) (l : List UInt8) : Prop :=
  (∀ k, (h : k < l.length) → w.cell? ⟨g, k, none⟩ = some (.int .u8 (l[k].toNat : Int))) ∧ (∀ k, k < l.length → w.frozen? ⟨g, k, none⟩ = false)
theorem Buf.cell {w : World} {g : Nat} {l : List UInt8} (h : Buf w g l) (k : Nat) (hk : k < l.length) : w.cell? ⟨g, k, none⟩ = some (.int .u8 (l[k].toNat : Int)) := h.1 k hk
theorem Buf.free {w : World} {g : Nat} {l : List UInt8} (h : Buf w g l) (k : Nat) (hk : k < l.length) : w.frozen? ⟨g, k, none⟩ = false := h.2 k hk
theorem Buf.set {w : World} {g : Nat} {l : List UInt8} (h : Buf w g l) (k : Nat) (hk : k < l.length) (c : UInt8) : Buf (w.setCell ⟨g, k, none⟩ (.int .u8 (c.toNat : Int))) g (l.set k c) := by
  refine ⟨fun j hj => ?_, fun j hj => ?_⟩
  · rw [List.length_set] at hj
    by_cases e : k = j
    · subst e
      rw [World.cell?_setCell_same' _ _ _ (by rw [h.1 k hk]; rfl)]
      simp
    · rw [World.cell?_setCell_other _ _ _ _ (by intro e'; injection e' with _ e2; exact e e2), h.1 j hj, List.getElem_set_ne e]
  · rw [List.length_set] at hj
    rw [World.frozen?_setCell]
    exact h.2 j hj
theorem Buf.back {P : Program} {w : World} {g : Nat} {l : List UInt8} (h : Buf w g l) (src dst e : TypeId) (cap : Nat) (hs : P.underlying src = some (.slice e)) (he : P.underlying e = some (.int .u8)) (hd : P.underlying dst = some .string) :
    (convert src dst (.slice (some ⟨g, 0, none⟩) l.length cap)).run P w = .ok (.string ⟨l.toArray⟩) w :=
  run_convert_bytes_back w src dst e ⟨g, 0, none⟩ cap l hs he hd (fun j hj => by
    have : (⟨g, 0, none⟩ : Addr).add j = ⟨g, j, none⟩ := by unfold Addr.add; split <;> simp_all
    rw [this]; exact h.1 j hj)


/-! ### Slices of texts -/
def str (x : List UInt8) : Value := .string ⟨x.toArray⟩
def strs (L : List (List UInt8)) : List Value := L.map str
/-- The slice v reads as the texts L; its cells lie below block B. -/
def Strs (w : World) (B : Nat) (v : Value) (L : List (List UInt8)) : Prop :=
  ∃ A c, v = .slice A L.length c ∧ L.length ≤ c ∧ c ≤ maxLen ∧ (0 < L.length → ∃ b o, A = some ⟨b, o, none⟩ ∧ b < B ∧ ∀ j, (h : j < L.length) → w.cell? ⟨b, o + j, none⟩ = some (.string ⟨(L[j]).toArray⟩))
theorem Strs.keep {w w' : World} {B : Nat} {v : Value} {L : List (List UInt8)} (h : Strs w B v L) (hb : Below B w w') : Strs w' B v L := by
  obtain ⟨A, c, hv, h1, h2, h3⟩ := h
  refine ⟨A, c, hv, h1, h2, fun h0 => ?_⟩
  obtain ⟨b, o, hA, hB, hc⟩ := h3 h0
  exact ⟨b, o, hA, hB, fun j hj => (hb.cell (p := ⟨b, o + j, none⟩) hB).trans (hc j hj)⟩
theorem Strs.more {w : World} {B B' : Nat} {v : Value} {L : List (List UInt8)} (h : Strs w B v L) (hb : B ≤ B') : Strs w B' v L := by
  obtain ⟨A, c, hv, h1, h2, h3⟩ := h
  refine ⟨A, c, hv, h1, h2, fun h0 => ?_⟩
  obtain ⟨b, o, hA, hB, hc⟩ := h3 h0
  exact ⟨b, o, hA, by omega, hc⟩
theorem Strs.at_ {w : World} {B : Nat} {v : Value} {L : List (List UInt8)} (h : Strs w B v L) : ∃ b o c, L.length ≤ c ∧ c ≤ maxLen ∧ (0 < L.length → b < B) ∧ (0 < L.length → v = .slice (some ⟨b, o, none⟩) L.length c) ∧ (L.length = 0 → ∃ A, v = .slice A 0 c) ∧ (∀ j, (h : j < L.length) → w.cell? ⟨b, o + j, none⟩ = some (.string ⟨(L[j]).toArray⟩)) := by
  obtain ⟨A, c, hv, h1, h2, h3⟩ := h
  by_cases h0 : 0 < L.length
  · obtain ⟨b, o, rfl, hB, hc⟩ := h3 h0
    exact ⟨b, o, c, h1, h2, fun _ => hB, fun _ => hv, fun e => by omega, hc⟩
  · have e : L.length = 0 := by omega
    exact ⟨0, 0, c, h1, h2, fun h => absurd h h0, fun h => absurd h h0, fun _ => ⟨A, by rw [hv, e]⟩, fun j hj => by omega⟩
/-- The call itself made the slice v, which reads as the texts L; its row lies from block B on. -/
def Own (w : World) (B : Nat) (v : Value) (L : List (List UInt8)) : Prop := w.ownsRow B 9 1 v L.length (strs L)
theorem Own.nil (w : World) (B : Nat) : Own w B (.slice none 0 0) [] := World.ownsRow_nil w B _ 1
theorem Own.alloc {w : World} {B : Nat} {v : Value} {L : List (List UInt8)} (h : Own w B v L) (o : Obj) : Own (w.alloc o) B v L := World.ownsRow.alloc h o
theorem Own.strs {w : World} {B : Nat} {v : Value} {L : List (List UInt8)} (h : Own w B v L) : Strs w w.heap.size v L := by
  have hc := h
  unfold Own World.ownsRow at h
  obtain ⟨hl, h⟩ := h
  rcases h with ⟨rfl, h0⟩ | ⟨g, cap, cur, rfl, hB, hh, h1, h2, h3, h4⟩
  · exact ⟨none, 0, by rw [h0], by omega, by unfold maxLen; omega, fun h => by omega⟩
  · refine ⟨_, cap, rfl, h1, h2, fun h0 => ⟨g, 0, rfl, ?_, fun j hj => ?_⟩⟩
    · exact (Array.getElem?_eq_some_iff.1 hh).1
    · have := World.ownsRow.cells hc (g := g) rfl j (.string ⟨(L[j]).toArray⟩) (by simp [Go.Proofs.YtbafofldgkigmaaGreatDoor.strs, str, hj])
      have e : (⟨g, 0, none⟩ : Addr).add j = ⟨g, 0 + j, none⟩ := by unfold Addr.add; split <;> simp_all
      rw [e] at this
      exact this
theorem Own.form {w : World} {B : Nat} {v : Value} {L : List (List UInt8)} (h : Own w B v L) : ∃ A n c, v = .slice A n c := by
  obtain ⟨A, c, hv, _⟩ := h.strs
  exact ⟨A, _, c, hv⟩
theorem strs_append (L M : List (List UInt8)) : strs (L ++ M) = strs L ++ strs M := by simp [strs]
theorem Own.keep {w w' : World} {B B' : Nat} {v : Value} {L : List (List UInt8)} (h : Own w B v L) (hb : Below B' w w') (hB : w.heap.size ≤ B') : Own w' B v L :=
  World.ownsRow.kept h (row := none) ⟨hb.os, hb.tape, hb.output, hb.size, fun k hk _ => hb.block k (by omega)⟩ (by cases v.ownBlock <;> simp)

theorem Own.mono {w : World} {B B' : Nat} {v : Value} {L : List (List UInt8)} (h : Own w B v L) (hB : B' ≤ B) : Own w B' v L := by
  obtain ⟨h1, h2⟩ := h
  refine ⟨h1, ?_⟩
  rcases h2 with h2 | ⟨g, cap, cur, hv, hg, r⟩
  · exact Or.inl h2
  · exact Or.inr ⟨g, cap, cur, hv, by omega, r⟩
theorem Own.at_ {w : World} {B : Nat} {v : Value} {L : List (List UInt8)} (h : Own w B v L) : ∃ b c, L.length ≤ c ∧ c ≤ maxLen ∧ (0 < L.length → B ≤ b ∧ b < w.heap.size) ∧ (0 < L.length → v = .slice (some ⟨b, 0, none⟩) L.length c) ∧ (L.length = 0 → ∃ A c, v = .slice A 0 c) ∧ (∀ j, (h : j < L.length) → w.cell? ⟨b, j, none⟩ = some (.string ⟨(L[j]).toArray⟩)) := by
  have hs := h.strs
  obtain ⟨hl, h⟩ := h
  rcases h with ⟨rfl, h0⟩ | ⟨g, cap, cur, rfl, hB, hh, h1, h2, h3, h4⟩
  · exact ⟨0, L.length, Nat.le_refl _, by rw [h0]; unfold maxLen; omega, fun h => by omega, fun h => by omega, fun _ => ⟨none, 0, rfl⟩, fun j hj => by omega⟩
  · refine ⟨g, cap, h1, h2, fun _ => ⟨hB, (Array.getElem?_eq_some_iff.1 hh).1⟩, fun _ => rfl, fun e => ⟨_, _, by rw [e]⟩, fun j hj => ?_⟩
    obtain ⟨A, c, hv, _, _, h7⟩ := hs
    obtain ⟨b, o, hA, _, hc⟩ := h7 (by omega)
    injection hv with hv1
    rw [← hv1] at hA
    injection hA with hA
    injection hA with e1 e2
    have := hc j hj
    rw [← e1, ← e2, Nat.zero_add] at this
    exact this
/-- The call answers texts in a row of its own, and what there was is as it was. -/
def RetStrs (w : World) (L : List (List UInt8)) (e : Ending) (w' : World) : Prop := ∃ v, e = .returned v ∧ Own w' w.heap.size v L ∧ Below w.heap.size w w'

theorem Tryz.infoStr : (Tryz.prog.info? 9).map (fun i => (i.zero, i.size, i.bytes)) = some (some (.string ⟨#[]⟩), 1, 16) := by kernel_rfl
/-- 'append(out, x)', out being of the call's own. -/
theorem wpList_app {ops : Array Oper} {rest : List Oper} {o : Oper} {a : Act} {w : World} {Q : Exit → Act → World → Prop} (hgd : o.guard = none) (s x : Operand)
    (ho : o.op = .call { callee := .builtin .append, args := #[s, x], argTypes := #[32, 32] })
    (B : Nat) (L : List (List UInt8)) (v : Value) (hs : a.eval s = v) (hown : Own w B v L) (y : List UInt8) (g : Nat) (hx : a.eval x = .slice (some ⟨g, 0, none⟩) 1 1)
    (hc : w.cell? ⟨g, 0, none⟩ = some (.string ⟨y.toArray⟩)) (h63 : L.length ≤ 1099511627776) (hB : B ≤ w.heap.size)
    (h : ∀ v' w', Own w' B v' (L ++ [y]) → Below B w w' → wpList Tryz.prog ops Q rest (a.put o.dst v') w') : wpList Tryz.prog ops Q (o :: rest) a w := by
  obtain ⟨i0, hi, hz0, hz1, hz2⟩ := info_parts Tryz.infoStr
  refine wpList_append_own _ hgd s x 32 ho B 9 i0 (.string ⟨#[]⟩) 1 16 Tryz.underlying32 hi hz0 hz1 hz2 rfl (by decide) v L.length (Go.Proofs.YtbafofldgkigmaaGreatDoor.strs L) hs hown ⟨g, 0, none⟩ 1 1 [str y] hx rfl ?_ (by simp [str, Value.oneCell']) (by unfold maxLen; omega) (by omega) hB ?_
  · intro j u hj
    match j, hj with
    | 0, hj =>
      have e : (⟨g, 0, none⟩ : Addr).add 0 = ⟨g, 0, none⟩ := by simp [Addr.add]
      rw [e, hc]
      simpa [str] using hj
  · intro v' w' h1 h2 _
    refine h v' w' ?_ ?_
    · unfold Own
      rw [strs_append, List.length_append]
      exact h1
    · refine (Below.refl B w).grown h2 hB (fun k hk => ?_)
      exact (World.ownsRow.lt hown k hk).1

end Go.Proofs.YtbafofldgkigmaaGreatDoor
namespace Go.Proofs.YtbafofldgkigmaaGreatDoor
open Go.RowKit
theorem own_cut {w : World} {B g n c : Nat} {L : List (List UInt8)} (h : Own w B (.slice (some ⟨g, 0, none⟩) n c) L) (j : Nat) (hj : j ≤ L.length) : Own w B (.slice (some ⟨g, 0, none⟩) j c) (L.take j) := by
  obtain ⟨hl, h⟩ := h
  rcases h with ⟨e, _⟩ | ⟨g', cap, cur, e, hB, hh, h1, h2, h3, h4⟩
  · cases e
  · injection e with e1 e2 e3
    injection e1 with e1
    injection e1 with e1
    subst e1 e3
    refine ⟨by simp [strs, Nat.min_eq_left hj], Or.inr ⟨g, c, cur, by rw [List.length_take, Nat.min_eq_left hj], hB, hh, by rw [List.length_take]; omega, h2, h3, ?_⟩⟩
    have e5 : (L.take j).length * 1 = min j (L.length * 1) := by simp
    rw [e5, ← List.take_take, h4]
    simp [strs]

theorem own_slice {w : World} {B : Nat} {v : Value} {L : List (List UInt8)} (h : Own w B v L) : ∃ A c, v = .slice A L.length c := by
  obtain ⟨hl, h⟩ := h
  rcases h with ⟨rfl, h0⟩ | ⟨g', cap, cur, rfl, _⟩
  · exact ⟨none, 0, by rw [h0]⟩
  · exact ⟨_, _, rfl⟩

end Go.Proofs.YtbafofldgkigmaaGreatDoor
namespace Go.Proofs.YtbafofldgkigmaaGreatDoor.Gl

abbrev Bs := List UInt8

/-! ### Layer 1: bytes -/
def low (c : UInt8) : UInt8 := if 65 ≤ c.toNat ∧ c.toNat ≤ 90 then c + 32 else c
def lower (l : Bs) : Bs := l.map low
def isDigit (c : UInt8) : Bool := decide (48 ≤ c.toNat ∧ c.toNat ≤ 57)
def isLetter (c : UInt8) : Bool := decide (97 ≤ c.toNat ∧ c.toNat ≤ 122 ∨ 65 ≤ c.toNat ∧ c.toNat ≤ 90)
def isSmall (c : UInt8) : Bool := decide (97 ≤ c.toNat ∧ c.toNat ≤ 122 ∨ 48 ≤ c.toNat ∧ c.toNat ≤ 57 ∨ c.toNat = 45 ∨ c.toNat = 95)

/-- The parts between a byte; p is what has been gathered of the part at hand. -/
def splitGo (c : UInt8) : Bs → Bs → List Bs
  | p, [] => [p]
  | p, x :: r => if x = c then p :: splitGo c [] r else splitGo c (p ++ [x]) r
def split (c : UInt8) (l : Bs) : List Bs := splitGo c [] l

/-- The number that digits are, n having been gathered. -/
def numGo (most : Int) : Int → Bs → Option Int
  | n, [] => some n
  | n, c :: r =>
    if (c.toNat : Int) < 48 ∨ 57 < (c.toNat : Int) then none
    else if most < (c.toNat : Int) - 48 ∨ (most - ((c.toNat : Int) - 48)) / 10 < n then none
    else numGo most (10 * n + ((c.toNat : Int) - 48)) r
def number (l : Bs) (most : Int) : Option Int :=
  if l = [] ∨ (l.head? = some 48 ∧ 1 < l.length) then none else numGo most 0 l

/-! ### Layer 2: hosts -/
structure Host where
  name : Bs := []
  v4 : Bool := false
  addr : Nat := 0
  deriving DecidableEq
def isLabel (l : Bs) : Bool := decide (1 ≤ l.length ∧ l.length ≤ 63) && l.all isSmall
def addrGo : Nat → List Bs → Option Nat
  | a, [] => some a
  | a, l :: r => match number l 255 with
    | none => none
    | some n => addrGo ((a * 256 + n.toNat) % 4294967296) r
def host3 (L : List Bs) : Host × Int :=
  match addrGo 0 L with
  | none => ({}, 20)
  | some a => ({ v4 := true, addr := a }, 0)
def host2 (s : Bs) (L : List Bs) : Host × Int :=
  if !(L.getLast?.getD []).all isDigit then ({ name := s }, 0)
  else if L.length ≠ 4 then ({}, 20)
  else host3 L
def host1 (s : Bs) (L : List Bs) : Host × Int := if !L.all isLabel then ({}, 20) else host2 s L
def hostOf (s : Bs) : Host × Int := if s.length < 1 ∨ 253 < s.length then ({}, 20) else host1 s (split 46 s)
def hostParse (s : Bs) : Host × Int := hostOf (lower s)

/-- The i-th of an address's four numbers, as a text. -/
def four (a i : Nat) : Bs := Lib.itoa ((a / 2 ^ (24 - 8 * i) % 256 : Nat) : Int)
def hostText (h : Host) : Bs := if h.v4 then four h.addr 0 ++ [46] ++ four h.addr 1 ++ [46] ++ four h.addr 2 ++ [46] ++ four h.addr 3 else h.name

/-! ### Layer 3: URLs -/
def blank (c : UInt8) : Bool := decide (c.toNat ≤ 32)
def trimL (l : Bs) : Bs := l.dropWhile blank
def trimR (l : Bs) : Bs := (l.reverse.dropWhile blank).reverse
def trim (l : Bs) : Bs := trimR (trimL l)
/-- What stands ahead of the first byte of some, and from that on. -/
def span (of l : Bs) : Bs × Bs := (l.takeWhile (fun c => !of.contains c), l.dropWhile (fun c => !of.contains c))
/-- May the bytes be those of a scheme? ('first': are they at its begin?) -/
def schemeGo : Bool → Bs → Bool
  | _, [] => true
  | first, c :: r => (isLetter c || (!first && (isDigit c || [43, 45, 46].contains c))) && schemeGo false r
def scheme (l : Bs) : Bool := !l.isEmpty && schemeGo true l
structure URL where
  scheme : Bs := []
  host : Host := {}
  port : Int := 0
  path : Bs := []
  hasQuery : Bool := false
  query : Bs := []
  rest : Bs := []
  deriving DecidableEq
def http : Bs := [104, 116, 116, 112]
def https : Bs := [104, 116, 116, 112, 115]
def own (s : Bs) : Int := if s = https then 443 else 80
def isNet (u : URL) : Bool := u.scheme == http || u.scheme == https

/-- The parts of a path without points; 'out': those that are kept so far. -/
def cleanGo : List Bs → List Bs → List Bs
  | out, [] => out
  | out, p :: r =>
    if p = [46, 46] then (if r = [] then out.dropLast ++ [[]] else cleanGo out.dropLast r)
    else if p = [46] then (if r = [] then out ++ [[]] else cleanGo out r)
    else cleanGo (out ++ [p]) r
def slashed (l : List Bs) : Bs := l.flatMap (47 :: ·)
/-- A path (none, or one that begins with a stroke) without points. -/
def clean (path : Bs) : Bs := slashed (cleanGo [] (split 47 (path.drop 1)))

/-- A URL of http or https: u bears its scheme; 'rest' is what stands behind the colon. -/
def web (u : URL) (rest : Bs) : URL × Int :=
  if !([47, 47] : Bs).isPrefixOf rest then ({}, 30)
  else
    let ab := span [47, 63] (rest.drop 2)
    if ab.1.contains 64 then ({}, 30)
    else
      let np := span [58] ab.1
      let h := hostParse np.1
      if h.2 ≠ 0 then ({}, h.2)
      else
        let pq := span [63] ab.2
        let done (port : Int) : URL × Int := ({ u with host := h.1, port := port, path := clean pq.1, hasQuery := !pq.2.isEmpty, query := pq.2.drop 1 }, 0)
        if 1 < np.2.length then
          match number (np.2.drop 1) 65535 with
          | none => ({}, 32)
          | some n => done (if n = own u.scheme then u.port else n)
        else done u.port

def urlText (u : URL) : Bs :=
  if isNet u = false then u.scheme ++ [58] ++ u.rest
  else u.scheme ++ [58, 47, 47] ++ hostText u.host ++ (if 0 ≤ u.port then [58] ++ Lib.itoa u.port else []) ++ u.path ++ (if u.hasQuery then [63] ++ u.query else [])

def about : Bs := [97, 98, 111, 117, 116]
def data : Bs := [100, 97, 116, 97]
def blob : Bs := [98, 108, 111, 98]
def bblank : Bs := [98, 108, 97, 110, 107]
def srcdoc : Bs := [115, 114, 99, 100, 111, 99]
def nullS : Bs := [110, 117, 108, 108, 47]
/-- The URL that a text is; 'inner': is what a blob holds a URL of http or https? -/
def core (inner : Bs → Bool) (s0 : Bs) : URL × Int :=
  let s := trim s0
  if 2000 < s.length then ({}, 30)
  else
    let fr := span [58] s
    let u : URL := { scheme := lower fr.1, port := -1 }
    if fr.2 = [] ∨ scheme u.scheme = false then ({}, 30)
    else if !isNet u && u.scheme != about && u.scheme != data && u.scheme != blob then ({}, 31)
    else
      let rest := (span [35] (fr.2.drop 1)).1
      if rest.any (fun c => decide (c.toNat < 33 ∨ 126 < c.toNat)) then ({}, 30)
      else if isNet u then web u rest
      else if u.scheme = about ∧ rest ≠ bblank ∧ rest ≠ srcdoc then ({}, 30)
      else if u.scheme = blob ∧ !nullS.isPrefixOf rest ∧ !inner rest then ({}, 30)
      else ({ u with rest := rest }, 0)
/-- Is a text a URL of http or https? -/
def netText (s : Bs) : Bool := (core (fun _ => false) s).2 == 0 && isNet (core (fun _ => false) s).1
def parse (s : Bs) : URL × Int := core netText s
def innerOf (u : URL) : URL × Bool :=
  if u.scheme ≠ blob then ({}, false)
  else if (parse u.rest).2 ≠ 0 ∨ isNet (parse u.rest).1 = false then ({}, false)
  else ((parse u.rest).1, true)

end Go.Proofs.YtbafofldgkigmaaGreatDoor.Gl
namespace Go.Proofs.YtbafofldgkigmaaGreatDoor
open Go.RowKit

theorem ret_bool {w : World} {a b : Bool} (h : a = true ↔ b = true) : Same w (.bool b) (.returned (.bool a)) w := ⟨by rw [Bool.eq_iff_iff.2 h], rfl⟩

theorem ref1_digit (c : UInt8) (w : World) :
    Calls Tryz.prog 183 #[.int .u8 c.toNat] w (Same w (.bool (Gl.isDigit c))) := by
  go_enter Tryz.func183, Tryz.ntmps183
  go_wp2
  all_goals
    go_ret
    exact ret_bool (by simp [Gl.isDigit]; omega)

theorem ref1_letter (c : UInt8) (w : World) :
    Calls Tryz.prog 182 #[.int .u8 c.toNat] w (Same w (.bool (Gl.isLetter c))) := by
  go_enter Tryz.func182, Tryz.ntmps182
  go_wp2
  all_goals
    go_ret
    exact ret_bool (by simp [Gl.isLetter]; omega)

theorem ref1_in (c : UInt8) (s : List UInt8) (w : World) (hs : s.length ≤ 281474976710656) :
    Calls Tryz.prog 181 #[.int .u8 c.toNat, .string ⟨s.toArray⟩] w (Same w (.bool (s.contains c))) := by
  generalize hR : s.contains c = R
  replace hR := Lib.hid hR
  go_enter Tryz.func181, Tryz.ntmps181
  go_wp2
  go_loop [5] (fun i => ∃ k : Nat, k ≤ s.length ∧ i = .int .i64 k ∧ Hid ((s.drop k).contains c = R)) (fun i => s.length - (intOf i).toNat)
  case atStart => exact ⟨0, Nat.zero_le _, rfl, hR⟩
  case round =>
    obtain ⟨k, hk, rfl, hr⟩ := hrel
    by_cases hlt : k < s.length
    · rw [drop_cons hlt] at hr
      by_cases hx : s[k] = c
      · have hf : Hid (R = true) := Lib.hid (by rw [← hr.out]; simp [hx])
        have hb : ((s[k].toNat : Int) == c.toNat) = true := by rw [hx]; simp
        clear hx
        go_wp2
        go_ret
        exact ret_bool (by rw [hf.out])
      · have hf : Hid ((s.drop (k + 1)).contains c = R) := Lib.hid (by rw [← hr.out, List.contains_cons]; simp [Ne.symm hx])
        have hb : ((s[k].toNat : Int) == c.toNat) = false := by
          rw [beq_eq_false_iff_ne]; intro h; exact hx (UInt8.toNat_inj.1 (by omega))
        clear hx hr
        go_wp2
        go_round
        case rel => exact ⟨k + 1, by omega, by go_num, hf⟩
        case measure => simp [intOf]; omega
    · have hf : Hid (R = false) := Lib.hid (by rw [← hr.out, List.drop_eq_nil_of_le (by omega)]; rfl)
      go_wp2
      go_ret
      exact ret_bool (by rw [hf.out])

theorem ref1_digit_at (c : UInt8) (w : World) {b : Bool} (h : Gl.isDigit c = b) :
    Calls Tryz.prog 183 #[.int .u8 c.toNat] w (Same w (.bool b)) := h ▸ ref1_digit c w

theorem numGo_digit {most n : Int} {c : UInt8} {r : List UInt8} (h : Gl.isDigit c = true) :
    Gl.numGo most n (c :: r) = if most < (c.toNat : Int) - 48 ∨ (most - ((c.toNat : Int) - 48)) / 10 < n then none else Gl.numGo most (10 * n + ((c.toNat : Int) - 48)) r := by
  conv => lhs; unfold Gl.numGo
  rw [if_neg]
  simp [Gl.isDigit] at h
  omega
theorem numGo_no {most n : Int} {c : UInt8} {r : List UInt8} (h : Gl.isDigit c = false) : Gl.numGo most n (c :: r) = none := by
  unfold Gl.numGo
  rw [if_pos]
  simp [Gl.isDigit] at h
  omega
theorem number_eq {s : List UInt8} (most : Int) (hz : 0 < s.length) : Gl.number s most = if s[0] = 48 ∧ 1 < s.length then none else Gl.numGo most 0 s := by
  unfold Gl.number
  have : s ≠ [] := by rintro rfl; simp at hz
  rw [List.head?_eq_getElem?, List.getElem?_eq_getElem hz]
  simp [this]


theorem ret_num {w : World} {R : Option Int} {a : Int} {b : Bool} (h : R = if b then some a else none) (ha : b = false → a = 0) :
    Same w (.tuple #[.int .i64 (R.getD 0), .bool R.isSome]) (.returned (.tuple #[.int .i64 a, .bool b])) w := by
  subst h
  cases b
  · rw [ha rfl]; exact ⟨rfl, rfl⟩
  · exact ⟨rfl, rfl⟩

set_option maxHeartbeats 1000000 in
theorem ref1_number (s : List UInt8) (most : Int) (w : World) (hs : s.length ≤ 281474976710656) (h0 : 0 ≤ most) (h1 : most ≤ 4294967296) :
    Calls Tryz.prog 185 #[.string ⟨s.toArray⟩, .int .i64 most] w
      (Same w (.tuple #[.int .i64 ((Gl.number s most).getD 0), .bool (Gl.number s most).isSome])) := by
  generalize hR : Gl.number s most = R
  replace hR := Lib.hid hR
  rcases Nat.eq_zero_or_pos s.length with hz | hz
  · obtain rfl := List.length_eq_zero_iff.1 hz
    go_enter Tryz.func185, Tryz.ntmps185
    go_wp2
    go_ret2
    exact ret_num (b := false) hR.out.symm (fun _ => rfl)
  · have he : s.isEmpty = false := by cases s <;> simp_all
    have hm : decide (most < 0) = false := by simp; omega
    replace hR := Lib.hid (hR.out.symm.trans (number_eq most hz))
    by_cases hc : s[0] = 48 ∧ 1 < s.length
    · obtain ⟨hc0, hc1⟩ := hc
      replace hR : Hid (R = none) := Lib.hid (by rw [hR.out, if_pos ⟨hc0, hc1⟩])
      have hb : ((s[0].toNat : Int) == 48) = true := by rw [hc0]; rfl
      have hb1 : decide (1 < (s.length : Int)) = true := by simp; omega
      clear hc0
      go_enter Tryz.func185, Tryz.ntmps185
      go_wp2
      go_ret2
      exact ret_num (b := false) hR.out (fun _ => rfl)
    · replace hR : Hid (R = Gl.numGo most 0 s) := Lib.hid (by rw [hR.out, if_neg hc])
      have hcc : ((s[0].toNat : Int) == 48) = false ∨ ((s[0].toNat : Int) == 48) = true ∧ decide (1 < (s.length : Int)) = false := by
        by_cases hx : s[0] = 48
        · right; rw [hx]; refine ⟨rfl, ?_⟩; simp; have : ¬ 1 < s.length := fun h => hc ⟨hx, h⟩; omega
        · left; rw [beq_eq_false_iff_ne]; intro h; apply hx; apply UInt8.toNat_inj.1; exact Int.ofNat_inj.1 h
      clear hc
      rcases hcc with hb | ⟨hb, hb1⟩
      all_goals
        go_enter Tryz.func185, Tryz.ntmps185
        go_wp2
        go_loop [6, 7] (fun n i => ∃ (k : Nat) (m : Int), k ≤ s.length ∧ i = .int .i64 k ∧ n = .int .i64 m ∧ 0 ≤ m ∧ m ≤ most ∧ Hid (R = Gl.numGo most m (s.drop k))) (fun _ i => s.length - (intOf i).toNat)
        case atStart => exact ⟨0, 0, Nat.zero_le _, rfl, rfl, Int.le_refl _, h0, hR⟩
        case round =>
          obtain ⟨k, m, hk, rfl, rfl, hm0, hm1, hr⟩ := hrel
          by_cases hlt : k < s.length
          · rw [drop_cons hlt] at hr
            cases hd : Gl.isDigit s[k] with
            | false =>
              replace hr := Lib.hid (hr.out.trans (numGo_no hd))
              have hd' := Lib.hid hd
              clear hd
              go_wp2_with (go_at_call 183; refine (ref1_digit_at _ _ hd'.out).mono ?_; rintro e w' ⟨rfl, rfl⟩)
              go_ret2
              exact ret_num (b := false) hr.out (fun _ => rfl)
            | true =>
              replace hr := Lib.hid (hr.out.trans (numGo_digit hd))
              have hd1 : 48 ≤ (s[k].toNat : Int) := by simp [Gl.isDigit] at hd; omega
              have hd2 : (s[k].toNat : Int) ≤ 57 := by simp [Gl.isDigit] at hd; omega
              have hd' := Lib.hid hd
              clear hd
              by_cases hq : most < (s[k].toNat : Int) - 48 ∨ (most - ((s[k].toNat : Int) - 48)) / 10 < m
              · replace hr : Hid (R = none) := Lib.hid (by rw [hr.out, if_pos hq])
                have hq' := Lib.hid hq
                have hq3 : Hid ((s[k].toNat : Int) - 48 ≤ most → (most - ((s[k].toNat : Int) - 48)).tdiv 10 = (most - ((s[k].toNat : Int) - 48)) / 10) := Lib.hid (fun h => Int.tdiv_eq_ediv_of_nonneg (by omega))
                clear hq
                go_wp2_with (go_at_call 183; refine (ref1_digit_at _ _ hd'.out).mono ?_; rintro e w' ⟨rfl, rfl⟩)
                all_goals first
                  | (go_ret2; exact ret_num (b := false) hr.out (fun _ => rfl))
                  | (exfalso; have := hq'.out; have := hq3.out (by omega); omega)
              · replace hr := Lib.hid (hr.out.trans (if_neg hq))
                have hq1 : (s[k].toNat : Int) - 48 ≤ most := by omega
                have hq2 : m ≤ (most - ((s[k].toNat : Int) - 48)) / 10 := by omega
                have hq3 : Hid ((most - ((s[k].toNat : Int) - 48)).tdiv 10 = (most - ((s[k].toNat : Int) - 48)) / 10) := Lib.hid (Int.tdiv_eq_ediv_of_nonneg (by omega))
                have hq4 : m ≤ (most - ((s[k].toNat : Int) - 48)).tdiv 10 := by rw [hq3.out]; exact hq2
                clear hq
                go_wp2_with (go_at_call 183; refine (ref1_digit_at _ _ hd'.out).mono ?_; rintro e w' ⟨rfl, rfl⟩)
                go_round
                case rel => exact ⟨k + 1, 10 * m + ((s[k].toNat : Int) - 48), by omega, by go_num, rfl, by omega, by omega, hr⟩
                case measure => simp [intOf]; omega
          · replace hr : Hid (R = some m) := Lib.hid (by rw [hr.out, List.drop_eq_nil_of_le (by omega)]; rfl)
            go_wp2
            go_ret2
            exact ret_num (b := true) hr.out (fun h => by cases h)

end Go.Proofs.YtbafofldgkigmaaGreatDoor
namespace Go.Proofs.YtbafofldgkigmaaGreatDoor
open Go.RowKit

theorem ref2_label (s : List UInt8) (w : World) (hs : s.length ≤ 281474976710656) :
    Calls Tryz.prog 206 #[.string ⟨s.toArray⟩] w (Same w (.bool (Gl.isLabel s))) := by
  generalize hR : Gl.isLabel s = R
  replace hR := Lib.hid hR
  by_cases hlen : 1 ≤ s.length ∧ s.length ≤ 63
  · have h0 : Hid ((s.drop 0).all Gl.isSmall = R) := Lib.hid (by rw [← hR.out]; simp [Gl.isLabel, hlen])
    obtain ⟨hl1, hl2⟩ := hlen
    go_enter Tryz.func206, Tryz.ntmps206
    go_wp2
    go_loop [3, 4] (fun i _ => ∃ k : Nat, k ≤ s.length ∧ i = .int .i64 k ∧ Hid ((s.drop k).all Gl.isSmall = R)) (fun i _ => s.length - (intOf i).toNat)
    case atStart => exact ⟨0, Nat.zero_le _, rfl, h0⟩
    case round =>
      obtain ⟨k, hk, rfl, hr⟩ := hrel
      by_cases hlt : k < s.length
      · rw [drop_cons hlt] at hr
        go_wp2
        all_goals first
          | (go_ret
             refine ret_bool ?_
             have : Gl.isSmall s[k] = false := by simp [Gl.isSmall]; simp at *; omega
             rw [← hr.out, List.all_cons, this, Bool.false_and])
          | (go_round
             case rel =>
               refine ⟨k + 1, by omega, by go_num, Lib.hid ?_⟩
               have : Gl.isSmall s[k] = true := by simp [Gl.isSmall]; simp at *; omega
               rw [← hr.out, List.all_cons, this, Bool.true_and]
             case measure => simp [intOf]; omega)
      · rw [List.drop_eq_nil_of_le (by omega)] at hr
        go_wp2
        go_ret
        exact ret_bool (by rw [← hr.out]; simp)
  · have hf : Hid (R = false) := Lib.hid (by rw [← hR.out]; simp [Gl.isLabel]; omega)
    rcases (show s.length < 1 ∨ 63 < s.length from by omega) with h | h
    all_goals
      go_enter Tryz.func206, Tryz.ntmps206
      go_wp2
      go_ret
      exact ret_bool (by rw [hf.out])

theorem ref2_digits (s : List UInt8) (w : World) (hs : s.length ≤ 281474976710656) :
    Calls Tryz.prog 207 #[.string ⟨s.toArray⟩] w (Same w (.bool (s.all Gl.isDigit))) := by
  generalize hR : s.all Gl.isDigit = R
  replace hR := Lib.hid hR
  go_enter Tryz.func207, Tryz.ntmps207
  go_wp2
  go_loop [3] (fun i => ∃ k : Nat, k ≤ s.length ∧ i = .int .i64 k ∧ Hid ((s.drop k).all Gl.isDigit = R)) (fun i => s.length - (intOf i).toNat)
  case atStart => exact ⟨0, Nat.zero_le _, rfl, hR⟩
  case round =>
    obtain ⟨k, hk, rfl, hr⟩ := hrel
    by_cases hlt : k < s.length
    · rw [drop_cons hlt] at hr
      go_wp2
      all_goals first
        | (go_ret
           refine ret_bool ?_
           have : Gl.isDigit s[k] = false := by simp [Gl.isDigit]; simp at *; omega
           rw [← hr.out, List.all_cons, this, Bool.false_and])
        | (go_round
           case rel =>
             refine ⟨k + 1, by omega, by go_num, Lib.hid ?_⟩
             have : Gl.isDigit s[k] = true := by simp [Gl.isDigit]; simp at *; omega
             rw [← hr.out, List.all_cons, this, Bool.true_and]
           case measure => simp [intOf]; omega)
    · rw [List.drop_eq_nil_of_le (by omega)] at hr
      go_wp2
      go_ret
      exact ret_bool (by rw [← hr.out]; simp)

theorem span_go (of s : List UInt8) (k : Nat) (h : (s.take k).all (fun c => !of.contains c) = true) (hk : k < s.length) (hc : of.contains s[k] = true) : Gl.span of s = (s.take k, s.drop k) := by
  have e : s = s.take k ++ s[k] :: s.drop (k + 1) := by rw [← drop_cons hk, List.take_append_drop]
  have h' : ∀ a ∈ s.take k, (fun c => !of.contains c) a = true := List.all_eq_true.1 h
  rw [Gl.span]
  conv => lhs; rw [e]
  rw [List.takeWhile_append_of_pos h', List.dropWhile_append_of_pos h', List.takeWhile_cons_of_neg (by simp at *; exact hc), List.dropWhile_cons_of_neg (by simp at *; exact hc), ← drop_cons hk]
  simp
theorem span_all (of s : List UInt8) (h : s.all (fun c => !of.contains c) = true) : Gl.span of s = (s, []) := by
  have h' : ∀ a ∈ s, (fun c => !of.contains c) a = true := List.all_eq_true.1 h
  have e1 := List.takeWhile_append_of_pos (l₂ := []) h'
  have e2 := List.dropWhile_append_of_pos (l₂ := []) h'
  simp only [List.append_nil, List.takeWhile_nil, List.dropWhile_nil] at e1 e2
  rw [Gl.span, e1, e2]

theorem ref1_in_at (c : UInt8) (s : List UInt8) (w : World) (hs : s.length ≤ 281474976710656) {b : Bool} (h : s.contains c = b) :
    Calls Tryz.prog 181 #[.int .u8 c.toNat, .string ⟨s.toArray⟩] w (Same w (.bool b)) := h ▸ ref1_in c s w hs

end Go.Proofs.YtbafofldgkigmaaGreatDoor
namespace Go.Proofs.YtbafofldgkigmaaGreatDoor
open Go.RowKit

theorem ref3_fails (n : Int) (w : World) :
    Calls Tryz.prog 145 #[.int .i64 n] w (Ret w (.tuple #[(Value.agg #[(Value.string ⟨#[]⟩), (Value.string ⟨#[]⟩), (Value.bool false), (Value.int .u32 0), (Value.int .i64 0), (Value.string ⟨#[]⟩), (Value.bool false), (Value.string ⟨#[]⟩), (Value.string ⟨#[]⟩)]), .int .i64 n])) := by
  go_enter Tryz.func145, Tryz.ntmps145
  go_wp2
  exact bodyPost_ret (v := .tuple #[(Value.agg #[(Value.string ⟨#[]⟩), (Value.string ⟨#[]⟩), (Value.bool false), (Value.int .u32 0), (Value.int .i64 0), (Value.string ⟨#[]⟩), (Value.bool false), (Value.string ⟨#[]⟩), (Value.string ⟨#[]⟩)]), .int .i64 n]) (by simp [results, Tryz.results145, go_sem]) rfl ⟨rfl, (Below.refl _ _).alloc (Nat.le_refl _) _⟩

theorem net_eq (u : Gl.URL) : Gl.isNet u = (u.scheme == [104, 116, 116, 112] || u.scheme == [104, 116, 116, 112, 115]) := rfl

theorem ref3_net (u : Gl.URL) (w : World) :
    Calls Tryz.prog 65 #[(Value.agg #[(Value.string ⟨((u).scheme).toArray⟩), (Value.string ⟨(((u).host).name).toArray⟩), (Value.bool ((u).host).v4), (Value.int .u32 (((u).host).addr : Int)), (Value.int .i64 (u).port), (Value.string ⟨((u).path).toArray⟩), (Value.bool (u).hasQuery), (Value.string ⟨((u).query).toArray⟩), (Value.string ⟨((u).rest).toArray⟩)])] w (Ret w (.bool (Gl.isNet u))) := by
  generalize hR : Gl.isNet u = R
  replace hR := Lib.hid hR
  go_enter Tryz.func65, Tryz.ntmps65
  go_wp2
  all_goals
    go_ret
    refine ⟨?_, (Below.refl _ _).alloc (Nat.le_refl _) _⟩
    rw [← hR.out, net_eq]
    simp [*]
  
theorem urlp_net (u : Gl.URL) (w : World) :
    Calls Tryz.prog 20 #[(Value.agg #[(Value.string ⟨((u).scheme).toArray⟩), (Value.string ⟨(((u).host).name).toArray⟩), (Value.bool ((u).host).v4), (Value.int .u32 (((u).host).addr : Int)), (Value.int .i64 (u).port), (Value.string ⟨((u).path).toArray⟩), (Value.bool (u).hasQuery), (Value.string ⟨((u).query).toArray⟩), (Value.string ⟨((u).rest).toArray⟩)])] w (Ret w (.bool (Gl.isNet u))) := by
  generalize hR : Gl.isNet u = R
  replace hR := Lib.hid hR
  go_enter Tryz.func20, Tryz.ntmps20
  go_wp2
  all_goals
    go_ret
    refine ⟨?_, (Below.refl _ _).alloc (Nat.le_refl _) _⟩
    rw [← hR.out, net_eq]
    simp [*]

theorem ref3_own (s : List UInt8) (w : World) :
    Calls Tryz.prog 97 #[(Value.string ⟨(s).toArray⟩)] w (Same w (.int .i64 (Gl.own s))) := by
  generalize hR : Gl.own s = R
  replace hR := Lib.hid hR
  go_enter Tryz.func97, Tryz.ntmps97
  go_wp2
  all_goals
    go_ret
    refine ⟨?_, rfl⟩
    rw [← hR.out]
    simp [Gl.own, Gl.https] at *
    simp [*]

theorem ref3_begins (s p : List UInt8) (w : World) :
    Calls Tryz.prog 149 #[(Value.string ⟨(s).toArray⟩), (Value.string ⟨(p).toArray⟩)] w (Same w (.bool (p.isPrefixOf s))) := by
  generalize hR : p.isPrefixOf s = R
  replace hR := Lib.hid hR
  have hq : p.isPrefixOf s = true ↔ p.length ≤ s.length ∧ s.take p.length = p := by
    rw [List.isPrefixOf_iff_prefix, List.prefix_iff_eq_take]
    refine ⟨fun h => ⟨?_, h.symm⟩, fun h => h.2.symm⟩
    have := congrArg List.length h
    simp at this
    omega
  rw [hR.out] at hq
  replace hq := Lib.hid hq
  by_cases hl : p.length ≤ s.length
  · go_enter Tryz.func149, Tryz.ntmps149
    go_wp2
    go_ret
    refine ret_bool ?_
    rw [hq.out]
    simp [hl]
  · go_enter Tryz.func149, Tryz.ntmps149
    go_wp2
    go_ret
    refine ret_bool ?_
    rw [hq.out]
    simp [hl]

theorem ref3_cut (s of : List UInt8) (w : World) (hs : s.length ≤ 281474976710656) (ho : of.length ≤ 281474976710656) :
    Calls Tryz.prog 146 #[(Value.string ⟨(s).toArray⟩), (Value.string ⟨(of).toArray⟩)] w (Ret w (.tuple #[(Value.string ⟨((Gl.span of s).1).toArray⟩), (Value.string ⟨((Gl.span of s).2).toArray⟩)])) := by
  generalize hR : Gl.span of s = R
  replace hR := Lib.hid hR
  go_enter Tryz.func146, Tryz.ntmps146
  go_wp2
  go_loop [6, 7] (fun i _ => ∃ k : Nat, k ≤ s.length ∧ i = .int .i64 k ∧ Hid ((s.take k).all (fun c => !of.contains c) = true)) (fun i _ => s.length - (intOf i).toNat)
  case atStart => exact ⟨0, Nat.zero_le _, rfl, Lib.hid rfl⟩
  case round =>
    obtain ⟨k, hk, rfl, hr⟩ := hrel
    by_cases hlt : k < s.length
    · cases hc : of.contains s[k] with
      | true =>
        have hf : Hid (R = (s.take k, s.drop k)) := Lib.hid (by rw [← hR.out, span_go of s k hr.out hlt hc])
        replace hc := Lib.hid hc
        go_wp2_with (go_at_call 181; refine (ref1_in_at _ _ _ ho hc.out).mono ?_; rintro e w' ⟨rfl, rfl⟩)
        go_quiet (fail)
        go_wp2
        go_ret2
        exact ⟨by rw [hf.out]; rfl, below_drewN (Below.refl _ _) _⟩
      | false =>
        have hf : Hid ((s.take (k + 1)).all (fun c => !of.contains c) = true) := Lib.hid (by rw [List.take_succ_eq_append_getElem hlt, List.all_append, hr.out]; simp at hc ⊢; exact hc)
        replace hc := Lib.hid hc
        go_wp2_with (go_at_call 181; refine (ref1_in_at _ _ _ ho hc.out).mono ?_; rintro e w' ⟨rfl, rfl⟩)
        go_round
        case rel => exact ⟨k + 1, by omega, by go_num, hf⟩
        case measure => simp [intOf]; omega
    · have hf : Hid (R = (s, [])) := Lib.hid (by rw [← hR.out, span_all]; rw [← hr.out, List.take_of_length_le (by omega)])
      go_wp2
      go_ret2
      exact ⟨by rw [hf.out]; rfl, Below.refl _ _⟩

theorem schemeGo_cons (first : Bool) (c : UInt8) (r : List UInt8) : Gl.schemeGo first (c :: r) = ((Gl.isLetter c || (!first && (Gl.isDigit c || [43, 45, 46].contains c))) && Gl.schemeGo false r) := rfl
theorem ref1_letter_at (c : UInt8) (w : World) {b : Bool} (h : Gl.isLetter c = b) :
    Calls Tryz.prog 182 #[.int .u8 c.toNat] w (Same w (.bool b)) := h ▸ ref1_letter c w

set_option maxHeartbeats 1000000 in
theorem ref3_scheme (s : List UInt8) (w : World) (hs : s.length ≤ 281474976710656) :
    Calls Tryz.prog 147 #[(Value.string ⟨(s).toArray⟩)] w (Same w (.bool (Gl.scheme s))) := by
  generalize hR : Gl.scheme s = R
  replace hR := Lib.hid hR
  go_enter Tryz.func147, Tryz.ntmps147
  go_wp2
  go_loop [3, 4, 5, 6] (fun i _ _ _ => ∃ k : Nat, k ≤ s.length ∧ i = .int .i64 k ∧ Hid (R = (!s.isEmpty && Gl.schemeGo (k == 0) (s.drop k)))) (fun i _ _ _ => s.length - (intOf i).toNat)
  case atStart => exact ⟨0, Nat.zero_le _, rfl, Lib.hid (by rw [← hR.out]; rfl)⟩
  case round =>
    obtain ⟨k, hk, rfl, hr⟩ := hrel
    by_cases hlt : k < s.length
    · have he : s.isEmpty = false := by cases s <;> simp_all
      rw [drop_cons hlt, he, schemeGo_cons] at hr
      have hk0 : ((k : Int) == 0) = (k == 0) := by rw [Bool.eq_iff_iff]; simp
      cases hl : Gl.isLetter s[k] <;> cases hd : Gl.isDigit s[k] <;> cases ho : [43, 45, 46].contains s[k] <;> cases hz : (k == 0) <;> rw [hz] at hk0
      all_goals
        rw [hl, hd, ho, hz] at hr
        have hkp : Hid ((k + 1 == 0) = false) := Lib.hid (by simp)
        replace hl := Lib.hid hl
        replace hd := Lib.hid hd
        replace ho := Lib.hid ho
        replace hz := Lib.hid hz
        replace he := Lib.hid he
        go_wp2_with (first
          | (go_at_call 182; refine (ref1_letter_at _ _ hl.out).mono ?_; rintro e w' ⟨rfl, rfl⟩)
          | (go_at_call 183; refine (ref1_digit_at _ _ hd.out).mono ?_; rintro e w' ⟨rfl, rfl⟩)
          | (go_at_call 181; refine (ref1_in_at _ [43, 45, 46] _ (by decide) ho.out).mono ?_; rintro e w' ⟨rfl, rfl⟩))
        first
          | (go_round
             case rel => exact ⟨k + 1, by omega, by go_num, Lib.hid (by rw [hr.out, hkp.out, he.out]; rfl)⟩
             case measure => simp [intOf]; omega)
          | (go_ret
             exact ret_bool (by rw [hr.out]; simp))
    · by_cases he : s.isEmpty = true
      · obtain rfl : s = [] := by simpa using he
        go_wp2
        go_ret
        exact ret_bool (by rw [hr.out]; simp)
      · replace he : s.isEmpty = false := by simpa using he
        rw [List.drop_eq_nil_of_le (by omega), he] at hr
        go_wp2
        go_ret
        exact ret_bool (by rw [hr.out]; simp [Gl.schemeGo])

end Go.Proofs.YtbafofldgkigmaaGreatDoor
namespace Go.Proofs.YtbafofldgkigmaaGreatDoor
open Go.RowKit

theorem splitGo_append (c : UInt8) (p q : List UInt8) (r : List UInt8) (h : c ∉ q) : Gl.splitGo c p (q ++ r) = Gl.splitGo c (p ++ q) r := by
  induction q generalizing p with
  | nil => simp
  | cons x q ih =>
    have hx : x ≠ c := fun e => h (by simp [e])
    simp only [List.cons_append, Gl.splitGo, if_neg hx]
    rw [ih _ (fun e => h (by simp [e]))]
    simp

set_option maxHeartbeats 1000000 in
theorem ref1_split (s : List UInt8) (c : UInt8) (w : World) (hs : s.length ≤ 1099511627774) :
    Calls Tryz.prog 191 #[.string ⟨s.toArray⟩, .int .u8 c.toNat] w (RetStrs w (Gl.split c s)) := by
  generalize hR : Gl.split c s = R
  replace hR := Lib.hid hR
  go_enter Tryz.func191, Tryz.ntmps191
  go_wp2
  go_loopw [5, 6, 7] (fun v f i wr => ∃ (k m : Nat) (L : List (List UInt8)), m ≤ k ∧ k ≤ s.length + 1 ∧ i = .int .i64 k ∧ f = .int .i64 m ∧ L.length ≤ m ∧
      Own wr w.heap.size v L ∧ Below w.heap.size w wr ∧ Hid (k ≤ s.length → L ++ Gl.splitGo c ((s.drop m).take (k - m)) (s.drop k) = R) ∧ Hid (s.length < k → L = R)) (fun _ _ i _ => s.length + 1 - (intOf i).toNat)
  case atStart => exact ⟨0, 0, [], Nat.le_refl _, Nat.zero_le _, rfl, rfl, Nat.le_refl _, Own.nil _ _, Below.refl _ _, Lib.hid (fun _ => by simpa [Gl.split] using hR.out), Lib.hid (fun h => by omega)⟩
  case round =>
    obtain ⟨k, m, L, hmk, hk, rfl, rfl, hLm, hown, hw, hr, hr2⟩ := hrel
    have hsz := hw.size
    by_cases hle : k ≤ s.length
    · replace hr := Lib.hid (hr.out hle)
      clear hr2
      by_cases hlt : k < s.length
      · rw [drop_cons hlt] at hr
        by_cases hx : s[k] = c
        · have hn : Hid ((L ++ [(s.drop m).take (k - m)]) ++ Gl.splitGo c [] (s.drop (k + 1)) = R) := Lib.hid (by rw [← hr.out, Gl.splitGo, if_pos hx]; simp)
          have hb : ((s[k].toNat : Int) == c.toNat) = true := by rw [hx]; simp
          have hkl : ((k : Int) == s.length) = false := by rw [beq_eq_false_iff_ne]; omega
          clear hx
          go_wp2_with (at_builtin; refine wpList_app rfl _ _ rfl _ L _ rfl (hown.alloc _) ((s.drop m).take (k - m)) wr.heap.size rfl ?_ (by omega) (by simp; omega) ?_)
          case refine_1 => go_simp
          rintro v' w' hown' hw'
          replace hw' := ((hw.alloc hsz _).trans hw')
          go_wp2
          go_roundw
          case rel => exact ⟨k + 1, k + 1, _, Nat.le_refl _, by omega, by go_num, by go_num, by simp; omega, hown', hw', Lib.hid (fun _ => by simpa using hn.out), Lib.hid (fun h => by omega)⟩
          case measure => simp [intOf]; omega
        · have hn : Hid (L ++ Gl.splitGo c ((s.drop m).take (k + 1 - m)) (s.drop (k + 1)) = R) := Lib.hid (by
            rw [← hr.out, Gl.splitGo, if_neg hx, show k + 1 - m = (k - m) + 1 from by omega, List.take_succ_eq_append_getElem (by simp; omega), List.getElem_drop]
            simp [show m + (k - m) = k from by omega])
          have hb : ((s[k].toNat : Int) == c.toNat) = false := by
            rw [beq_eq_false_iff_ne]; intro h; exact hx (UInt8.toNat_inj.1 (by omega))
          have hkl : ((k : Int) == s.length) = false := by rw [beq_eq_false_iff_ne]; omega
          clear hx hr
          go_wp2
          go_roundw
          case rel => exact ⟨k + 1, m, L, by omega, by omega, by go_num, rfl, hLm, hown, hw, Lib.hid (fun _ => hn.out), Lib.hid (fun h => by omega)⟩
          case measure => simp [intOf]; omega
      · obtain rfl : k = s.length := by omega
        have hn : Hid (L ++ [s.drop m] = R) := Lib.hid (by rw [← hr.out, List.drop_length, Gl.splitGo, List.take_of_length_le (by simp)])
        go_wp2_with (at_builtin; refine wpList_app rfl _ _ rfl _ L _ rfl (hown.alloc _) (s.drop m) wr.heap.size rfl ?_ (by omega) (by simp; omega) ?_)
        case refine_1 => go_simp
        rintro v' w' hown' hw'
        replace hw' := ((hw.alloc hsz _).trans hw')
        go_wp2
        go_roundw
        case rel => exact ⟨s.length + 1, s.length + 1, _, Nat.le_refl _, by omega, by go_num, by go_num, by simp; omega, hown', hw', Lib.hid (fun h => by omega), Lib.hid (fun _ => hn.out)⟩
        case measure => simp [intOf]
    · have hn := Lib.hid (hr2.out (by omega))
      have hst := hown
      clear hr hr2 hown
      go_wp2
      go_ret
      refine ⟨_, rfl, ?_, hw⟩
      rw [← hn.out]
      exact hst

end Go.Proofs.YtbafofldgkigmaaGreatDoor
namespace Go.Proofs.YtbafofldgkigmaaGreatDoor
open Go.RowKit

/-- The first k bytes are small already. -/
def mix (s : List UInt8) (k : Nat) : List UInt8 := (s.take k).map Gl.low ++ s.drop k
theorem mix_length (s : List UInt8) (k : Nat) : (mix s k).length = s.length := by simp [mix]; omega
theorem mix_get (s : List UInt8) (k : Nat) (h : k < s.length) : (mix s k)[k]'(by rw [mix_length]; exact h) = s[k] := by
  simp only [mix]
  rw [List.getElem_append_right (by simp; omega)]
  simp [Nat.min_eq_left (Nat.le_of_lt h)]
theorem mix_set (s : List UInt8) (k : Nat) (h : k < s.length) : (mix s k).set k (Gl.low s[k]) = mix s (k + 1) := by
  simp only [mix]
  rw [List.set_append_right _ _ (by simp; omega), drop_cons h]
  have e : k - ((s.take k).map Gl.low).length = 0 := by simp; omega
  rw [e, List.set_cons_zero, List.take_succ_eq_append_getElem h, List.map_append, List.append_assoc]
  rfl
theorem mix_keep (s : List UInt8) (k : Nat) (h : k < s.length) (hl : Gl.low s[k] = s[k]) : mix s (k + 1) = mix s k := by
  rw [← mix_set s k h, hl]
  conv => lhs; arg 3; rw [← mix_get s k h]
  exact List.set_getElem_self _
theorem mix_zero (s : List UInt8) : mix s 0 = s := by simp [mix]
theorem mix_all (s : List UInt8) (k : Nat) (h : s.length ≤ k) : mix s k = Gl.lower s := by
  simp [mix, Gl.lower, List.take_of_length_le h, List.drop_eq_nil_of_le h]

theorem buf_new {w : World} {e : TypeId} (s : List UInt8) : Buf (Lib.bytesWorld w e ⟨s.toArray⟩) w.heap.size s := by
  refine ⟨fun k hk => ?_, fun k hk => ?_⟩
  · rw [Lib.bytesWorld_cell _ _ _ _ hk]
    simp [List.getD, hk]
  · unfold World.frozen?
    rw [Lib.bytesWorld_at_new]
    simp [Lib.bytesCells]
    omega
theorem below_bytes (w : World) (e : TypeId) (s : ByteArray) : Below w.heap.size w (Lib.bytesWorld w e s) :=
  ⟨rfl, rfl, rfl, by rw [Lib.bytesWorld_size]; omega, fun j hj => Lib.bytesWorld_at_old w e s j hj⟩

set_option maxHeartbeats 1000000 in
theorem ref1_lower (s : List UInt8) (w : World) (hs : s.length ≤ 281474976710656) :
    Calls Tryz.prog 141 #[.string ⟨s.toArray⟩] w (Ret w (.string ⟨(Gl.lower s).toArray⟩)) := by
  have hconv := fun (w : World) => Lib.run_convert_string_bytes (P := Tryz.prog) w 9 150 5 ⟨s.toArray⟩ Tryz.underlying9 Tryz.underlying150 Tryz.underlying5
  generalize hR : Gl.lower s = R
  replace hR := Lib.hid hR
  go_enter Tryz.func141, Tryz.ntmps141
  go_wp2
  go_loopw [4] (fun i wr => ∃ k : Nat, k ≤ s.length ∧ i = .int .i64 k ∧ Buf wr w.heap.size (mix s k) ∧ Below w.heap.size w wr) (fun i _ => s.length - (intOf i).toNat)
  case atStart => exact ⟨0, Nat.zero_le _, rfl, mix_zero s ▸ buf_new s, below_bytes _ _ _⟩
  case round =>
    obtain ⟨k, hk, rfl, hb, hw⟩ := hrel
    by_cases hlt : k < s.length
    · have hc : wr.cell? ⟨w.heap.size, k, none⟩ = some (.int .u8 (s[k].toNat : Int)) := by
        rw [hb.cell k (by rw [mix_length]; exact hlt), mix_get s k hlt]
      have hf := hb.free k (by rw [mix_length]; exact hlt)
      have hc1 := (s[k]).toNat_lt
      by_cases hu : 65 ≤ s[k].toNat ∧ s[k].toNat ≤ 90
      · obtain ⟨hu1, hu2⟩ := hu
        have hb' : Buf (wr.setCell ⟨w.heap.size, k, none⟩ (.int .u8 ((s[k].toNat : Int) + 32))) w.heap.size (mix s (k + 1)) := by
          have := hb.set k (by rw [mix_length]; exact hlt) (Gl.low s[k])
          rw [mix_set s k hlt] at this
          have e : ((Gl.low s[k]).toNat : Int) = (s[k].toNat : Int) + 32 := by
            simp [Gl.low, hu1, hu2, UInt8.toNat_add]; omega
          rw [e] at this
          exact this
        have hw' := hw.setCell (p := ⟨w.heap.size, k, none⟩) (Nat.le_refl _) (.int .u8 ((s[k].toNat : Int) + 32))
        have hB := Lib.hid hb'
        clear hb' hb
        go_wp2
        go_roundw
        case rel => exact ⟨k + 1, by omega, by go_num, hB.out, hw'⟩
        case measure => simp [intOf]; omega
      · have hB : Hid (Buf wr w.heap.size (mix s (k + 1))) := Lib.hid (by rw [mix_keep s k hlt (by simp only [Gl.low]; rw [if_neg hu])]; exact hb)
        have hB0 := Lib.hid hb
        clear hb
        rcases (show s[k].toNat < 65 ∨ 90 < s[k].toNat from by omega) with h1 | h1
        all_goals
          clear hu
          go_wp2
          go_roundw
          case rel => exact ⟨k + 1, by omega, by go_num, hB.out, hw⟩
          case measure => simp [intOf]; omega
    · have hx : k = s.length := by omega
      have hback : ∀ cap, (convert 150 9 (.slice (some ⟨w.heap.size, 0, none⟩) s.length cap)).run Tryz.prog wr = .ok (.string ⟨R.toArray⟩) wr := fun cap => by
        rw [mix_all s k (by omega), hR.out] at hb
        have := hb.back 150 9 5 cap Tryz.underlying150 Tryz.underlying5 Tryz.underlying9
        rw [← hR.out, Gl.lower, List.length_map] at this
        rw [← hR.out]
        exact this
      clear hb hx
      go_wp2
      go_ret
      exact ⟨rfl, hw⟩

theorem or32 : ∀ c : UInt8, 65 ≤ c.toNat → c.toNat ≤ 90 → bits .or .u8 (c.toNat : Int) 32 = (c.toNat : Int) + 32 := by
  intro c h1 h2
  have h : ∀ i : Fin 26, bits .or .u8 ((i.val + 65 : Nat) : Int) 32 = ((i.val + 65 : Nat) : Int) + 32 := by decide +kernel
  have := h ⟨c.toNat - 65, by omega⟩
  rw [show c.toNat - 65 + 65 = c.toNat from by omega] at this
  exact this

set_option maxHeartbeats 1000000 in
theorem octet_lower (s : List UInt8) (w : World) (hs : s.length ≤ 281474976710656) :
    Calls Tryz.prog 51 #[.string ⟨s.toArray⟩] w (Ret w (.string ⟨(Gl.lower s).toArray⟩)) := by
  have hconv := fun (w : World) => Lib.run_convert_string_bytes (P := Tryz.prog) w 9 150 5 ⟨s.toArray⟩ Tryz.underlying9 Tryz.underlying150 Tryz.underlying5
  generalize hR : Gl.lower s = R
  replace hR := Lib.hid hR
  go_enter Tryz.func51, Tryz.ntmps51
  go_wp2
  go_loopw [4, 5, 10] (fun _ _ i wr => ∃ k : Nat, k ≤ s.length ∧ i = .int .i64 k ∧ Buf wr w.heap.size (mix s k) ∧ Below w.heap.size w wr) (fun _ _ i _ => s.length - (intOf i).toNat)
  case atStart => exact ⟨0, Nat.zero_le _, rfl, mix_zero s ▸ buf_new s, below_bytes _ _ _⟩
  case round =>
    obtain ⟨k, hk, rfl, hb, hw⟩ := hrel
    by_cases hlt : k < s.length
    · have hc : wr.cell? ⟨w.heap.size, k, none⟩ = some (.int .u8 (s[k].toNat : Int)) := by
        rw [hb.cell k (by rw [mix_length]; exact hlt), mix_get s k hlt]
      have hf := hb.free k (by rw [mix_length]; exact hlt)
      have hc1 := (s[k]).toNat_lt
      by_cases hu : 65 ≤ s[k].toNat ∧ s[k].toNat ≤ 90
      · obtain ⟨hu1, hu2⟩ := hu
        have hb' : Buf (wr.setCell ⟨w.heap.size, k, none⟩ (.int .u8 ((s[k].toNat : Int) + 32))) w.heap.size (mix s (k + 1)) := by
          have := hb.set k (by rw [mix_length]; exact hlt) (Gl.low s[k])
          rw [mix_set s k hlt] at this
          have e : ((Gl.low s[k]).toNat : Int) = (s[k].toNat : Int) + 32 := by
            simp [Gl.low, hu1, hu2, UInt8.toNat_add]; omega
          rw [e] at this
          exact this
        have hw' := hw.setCell (p := ⟨w.heap.size, k, none⟩) (Nat.le_refl _) (.int .u8 ((s[k].toNat : Int) + 32))
        have hB := Lib.hid hb'
        clear hb' hb
        have hor : bits .or .u8 (s[k].toNat : Int) 32 = (s[k].toNat : Int) + 32 := or32 _ hu1 hu2
        go_wp2
        go_roundw
        case rel => exact ⟨k + 1, by omega, by go_num, hB.out, hw'⟩
        case measure => simp [intOf]; omega
      · have hB : Hid (Buf wr w.heap.size (mix s (k + 1))) := Lib.hid (by rw [mix_keep s k hlt (by simp only [Gl.low]; rw [if_neg hu])]; exact hb)
        have hB0 := Lib.hid hb
        clear hb
        rcases (show s[k].toNat < 65 ∨ 90 < s[k].toNat from by omega) with h1 | h1
        all_goals
          clear hu
          go_wp2
          go_roundw
          case rel => exact ⟨k + 1, by omega, by go_num, hB.out, hw⟩
          case measure => simp [intOf]; omega
    · have hx : k = s.length := by omega
      have hback : ∀ cap, (convert 150 9 (.slice (some ⟨w.heap.size, 0, none⟩) s.length cap)).run Tryz.prog wr = .ok (.string ⟨R.toArray⟩) wr := fun cap => by
        rw [mix_all s k (by omega), hR.out] at hb
        have := hb.back 150 9 5 cap Tryz.underlying150 Tryz.underlying5 Tryz.underlying9
        rw [← hR.out, Gl.lower, List.length_map] at this
        rw [← hR.out]
        exact this
      clear hb hx
      go_wp2
      go_ret
      exact ⟨rfl, hw⟩

end Go.Proofs.YtbafofldgkigmaaGreatDoor
namespace Go.Proofs.YtbafofldgkigmaaGreatDoor
open Go.RowKit

/-- What octet.cut holds between two bytes: blocks b (are empty parts wanted?) and b + 1 (the parts so far) are the call's own. -/
structure CutInv (w0 : World) (emp : Bool) (L : List (List UInt8)) (w : World) : Prop where
  below : Below w0.heap.size w0 w
  size : w0.heap.size + 2 ≤ w.heap.size
  ce : w.cell? ⟨w0.heap.size, 0, none⟩ = some (.bool emp)
  co : ∃ v, w.cell? ⟨w0.heap.size + 1, 0, none⟩ = some v ∧ Own w (w0.heap.size + 2) v L
  fo : w.frozen? ⟨w0.heap.size + 1, 0, none⟩ = false

theorem setCell_own {w : World} {B : Nat} {v : Value} {L : List (List UInt8)} (h : Own w B v L) {p : Addr} (hp : p.block < B) (u : Value) : Own (w.setCell p u) B v L :=
  ownsRow_setCell_below h hp u

theorem CutInv.put {w0 w w' : World} {emp : Bool} {L M : List (List UInt8)} {o : Obj} {v' : Value} (h : CutInv w0 emp L w) (hown : Own w' (w0.heap.size + 2) v' M) (hw : Below (w0.heap.size + 2) (w.alloc o) w') :
    CutInv w0 emp M (w'.setCell ⟨w0.heap.size + 1, 0, none⟩ v') := by
  obtain ⟨hb, hsz, hce, ⟨v, hco, _⟩, hfo⟩ := h
  have h1 : w'.cell? ⟨w0.heap.size + 1, 0, none⟩ = some v := by
    rw [hw.cell (p := ⟨w0.heap.size + 1, 0, none⟩) (by simp), World.cell?_alloc_lt w o _ (by simp; omega), hco]
  have hs := hw.size
  simp at hs
  refine ⟨?_, ?_, ?_, ⟨v', ?_, ?_⟩, ?_⟩
  · exact ((hb.alloc (by omega) o).trans (hw.mono (by omega))).setCell (by simp) v'
  · simp; omega
  · rw [World.cell?_setCell_other _ _ _ _ (by simp), hw.cell (p := ⟨w0.heap.size, 0, none⟩) (by simp), World.cell?_alloc_lt w o _ (by simp; omega), hce]
  · exact World.cell?_setCell_same' _ _ _ (by rw [h1]; rfl)
  · exact setCell_own hown (by simp) v'
  · rw [World.frozen?_setCell, hw.frozen (p := ⟨w0.heap.size + 1, 0, none⟩) (by simp), frozen_alloc _ _ _ (by simp; omega), hfo]

/-- 'put', where every part is wanted. -/
theorem octet_put (w0 : World) (p : List UInt8) (L : List (List UInt8)) (w : World) (hl : L.length ≤ 1099511627776) (h : CutInv w0 true L w) :
    Calls Tryz.prog 199 #[.string ⟨p.toArray⟩, .pointer (some ⟨w0.heap.size, 0, none⟩), .pointer (some ⟨w0.heap.size + 1, 0, none⟩)] w
      (fun e w' => e = .returned (.tuple #[]) ∧ CutInv w0 true (L ++ [p]) w') := by
  have H := Lib.hid h
  obtain ⟨hb, hsz, hce, ⟨v, hco, hown⟩, hfo⟩ := h
  obtain ⟨A, c, rfl, _⟩ := hown.strs
  go_enter Tryz.func199, Tryz.ntmps199
  go_wp2_with (at_builtin; refine wpList_app rfl _ _ rfl (w0.heap.size + 2) L _ rfl (hown.alloc _) p w.heap.size rfl ?_ hl (by simp; omega) ?_)
  case refine_1 => go_simp
  rintro v' w' hown' hw'
  have hfin := Lib.hid (H.out.put hown' hw')
  have hc' : w'.cell? ⟨w0.heap.size + 1, 0, none⟩ = some (.slice A L.length c) := by
    rw [hw'.cell (p := ⟨w0.heap.size + 1, 0, none⟩) (by simp), World.cell?_alloc_lt w _ _ (by simp; omega), hco]
  have hf' : w'.frozen? ⟨w0.heap.size + 1, 0, none⟩ = false := by
    rw [hw'.frozen (p := ⟨w0.heap.size + 1, 0, none⟩) (by simp), frozen_alloc _ _ _ (by simp; omega), hfo]
  obtain ⟨A', n', c', rfl⟩ := hown'.form
  clear hown hown'
  go_wp2
  go_end0
  exact ⟨rfl, hfin.out⟩

theorem octet_is (c d : UInt8) (b : Nat) (w : World) (h : w.cell? ⟨b, 0, none⟩ = some (.int .u8 (d.toNat : Int))) :
    Calls Tryz.prog 171 #[.int .u8 c.toNat, .pointer (some ⟨b, 0, none⟩)] w (Same w (.bool (c == d))) := by
  go_enter Tryz.func171, Tryz.ntmps171
  go_wp2
  go_ret
  exact ret_bool (by simp [← UInt8.toNat_inj]; omega)

set_option maxHeartbeats 1000000 in
theorem octet_cut (s : List UInt8) (c : UInt8) (b : Nat) (w : World) (hs : s.length ≤ 1099511627774) (hb : b < w.heap.size) (hc : w.cell? ⟨b, 0, none⟩ = some (.int .u8 (c.toNat : Int))) :
    Calls Tryz.prog 170 #[.string ⟨s.toArray⟩, .func (.func 171) #[] #[.pointer (some ⟨b, 0, none⟩)], .bool true] w (RetStrs w (Gl.split c s)) := by
  generalize hR : Gl.split c s = R
  replace hR := Lib.hid hR
  go_enter Tryz.func170, Tryz.ntmps170
  go_wp2_with fail
  go_loopw [9, 10, 14] (fun f _ i wr => ∃ (k m : Nat) (L : List (List UInt8)), m ≤ k ∧ k ≤ s.length ∧ i = .int .i64 k ∧ f = .int .i64 m ∧ L.length ≤ m ∧
      CutInv w true L wr ∧ Hid (L ++ Gl.splitGo c ((s.drop m).take (k - m)) (s.drop k) = R)) (fun _ _ i _ => s.length - (intOf i).toNat)
  case atStart =>
    refine ⟨0, 0, [], Nat.le_refl _, Nat.zero_le _, rfl, rfl, Nat.le_refl _, ⟨?_, ?_, ?_, ⟨.slice none 0 0, ?_, Own.nil _ _⟩, ?_⟩, Lib.hid (by simpa [Gl.split] using hR.out)⟩
    · exact ((Below.refl _ _).alloc (Nat.le_refl _) _).alloc (by simp) _
    · simp
    · go_simp
    · go_simp
    · go_simp
  case round =>
    obtain ⟨k, m, L, hmk, hk, rfl, rfl, hLm, hinv, hr⟩ := hrel
    have hci : wr.cell? ⟨b, 0, none⟩ = some (.int .u8 (c.toNat : Int)) := (hinv.below.cell (p := ⟨b, 0, none⟩) hb).trans hc
    by_cases hlt : k < s.length
    · rw [drop_cons hlt] at hr
      by_cases hx : s[k] = c
      · have hn : Hid ((L ++ [(s.drop m).take (k - m)]) ++ Gl.splitGo c [] (s.drop (k + 1)) = R) := Lib.hid (by rw [← hr.out, Gl.splitGo, if_pos hx]; simp)
        have his : Hid (∀ w, w.cell? ⟨b, 0, none⟩ = some (.int .u8 (c.toNat : Int)) → Calls Tryz.prog 171 #[.int .u8 (s[k].toNat : Int), .pointer (some ⟨b, 0, none⟩)] w (Same w (.bool true))) := Lib.hid (fun w h => by
          have := octet_is s[k] c b w h; rw [hx, beq_self_eq_true] at this; rw [hx]; exact this)
        clear hx hr
        go_wp2_with (first
          | (go_at_call 171; refine (his.out _ (by assumption)).mono ?_; rintro e w' ⟨rfl, rfl⟩)
          | (go_at_call 199; refine (octet_put w _ L _ (by omega) hinv).mono ?_; rintro e w' ⟨rfl, hinv'⟩))
        go_roundw
        case rel => exact ⟨k + 1, k + 1, _, Nat.le_refl _, by omega, by go_num, by go_num, by simp; omega, hinv', Lib.hid (by simpa using hn.out)⟩
        case measure => simp [intOf]; omega
      · have hn : Hid (L ++ Gl.splitGo c ((s.drop m).take (k + 1 - m)) (s.drop (k + 1)) = R) := Lib.hid (by
            rw [← hr.out, Gl.splitGo, if_neg hx, show k + 1 - m = (k - m) + 1 from by omega, List.take_succ_eq_append_getElem (by simp; omega), List.getElem_drop]
            simp [show m + (k - m) = k from by omega])
        have his : Hid (∀ w, w.cell? ⟨b, 0, none⟩ = some (.int .u8 (c.toNat : Int)) → Calls Tryz.prog 171 #[.int .u8 (s[k].toNat : Int), .pointer (some ⟨b, 0, none⟩)] w (Same w (.bool false))) := Lib.hid (fun w h => by
          have := octet_is s[k] c b w h; rw [beq_eq_false_iff_ne.2 hx] at this; exact this)
        clear hx hr
        go_wp2_with (go_at_call 171; refine (his.out _ (by assumption)).mono ?_; rintro e w' ⟨rfl, rfl⟩)
        go_roundw
        case rel => exact ⟨k + 1, m, L, by omega, by omega, by go_num, rfl, hLm, hinv, hn⟩
        case measure => simp [intOf]; omega
    · have hn : Hid (L ++ [s.drop m] = R) := Lib.hid (by rw [← hr.out, List.drop_eq_nil_of_le (show s.length ≤ k by omega), Gl.splitGo, List.take_of_length_le (by simp; omega)])
      clear hr
      go_wp2_with (go_at_call 199; refine (octet_put w _ L _ (by omega) hinv).mono ?_; rintro e w' ⟨rfl, hinv'⟩; obtain ⟨v', hco', hown'⟩ := hinv'.co; obtain ⟨A', n', c', rfl⟩ := hown'.form)
      go_ret
      refine ⟨_, rfl, ?_, hinv'.below⟩
      rw [← hn.out]
      exact hown'.mono (by omega)

theorem octet_split (s : List UInt8) (c : UInt8) (w : World) (hs : s.length ≤ 1099511627774) :
    Calls Tryz.prog 134 #[.string ⟨s.toArray⟩, .int .u8 c.toNat] w (RetStrs w (Gl.split c s)) := by
  generalize hR : Gl.split c s = R
  replace hR := Lib.hid hR
  go_enter Tryz.func134, Tryz.ntmps134
  go_wp2_with (go_at_call 170; refine (octet_cut s c w.heap.size _ hs (by simp) (by go_simp)).mono ?_; rintro e w' ⟨v, rfl, hv, hb⟩)
  go_ret
  refine ⟨_, rfl, ?_, ((Below.refl _ w).alloc (Nat.le_refl _) _).trans (hb.mono (by simp))⟩
  rw [← hR.out]
  exact hv.mono (by simp)
end Go.Proofs.YtbafofldgkigmaaGreatDoor
namespace Go.Proofs.YtbafofldgkigmaaGreatDoor
open Go.RowKit

theorem trimL_cons {t : List UInt8} (h : 0 < t.length) (hb : t[0].toNat ≤ 32) : Gl.trimL t = Gl.trimL t.tail := by
  cases t with
  | nil => simp at h
  | cons x r =>
    simp only [Gl.trimL]
    rw [List.dropWhile_cons_of_pos (by simpa [Gl.blank] using hb)]
    rfl
theorem trimL_stop {t : List UInt8} (h : 0 < t.length) (hb : 32 < t[0].toNat) : Gl.trimL t = t := by
  cases t with
  | nil => simp at h
  | cons x r =>
    simp only [Gl.trimL]
    rw [List.dropWhile_cons_of_neg (by simpa [Gl.blank] using hb)]
theorem trimR_snoc {t : List UInt8} (h : 0 < t.length) (hb : t[t.length - 1].toNat ≤ 32) : Gl.trimR t = Gl.trimR (t.take (t.length - 1)) := by
  have e : t = t.take (t.length - 1) ++ [t[t.length - 1]] := by
    rw [← List.take_succ_eq_append_getElem (by omega), List.take_of_length_le (by omega)]
  conv => lhs; rw [e]
  simp only [Gl.trimR, List.reverse_append, List.reverse_cons, List.reverse_nil, List.nil_append, List.cons_append]
  rw [List.dropWhile_cons_of_pos (by simpa [Gl.blank] using hb)]
theorem trimR_stop {t : List UInt8} (h : 0 < t.length) (hb : 32 < t[t.length - 1].toNat) : Gl.trimR t = t := by
  have e : t = t.take (t.length - 1) ++ [t[t.length - 1]] := by
    rw [← List.take_succ_eq_append_getElem (by omega), List.take_of_length_le (by omega)]
  conv => lhs; rw [e]
  simp only [Gl.trimR, List.reverse_append, List.reverse_cons, List.reverse_nil, List.nil_append, List.cons_append]
  rw [List.dropWhile_cons_of_neg (by simpa [Gl.blank] using hb)]
  rw [List.reverse_cons, List.reverse_reverse, ← e]

def sizeOfV : Value → Nat | .string t => t.size | _ => 0

theorem ref3_trim (s : List UInt8) (w : World) (hs : s.length ≤ 281474976710656) :
    Calls Tryz.prog 144 #[(Value.string ⟨(s).toArray⟩)] w (Same w ((Value.string ⟨(Gl.trim s).toArray⟩))) := by
  generalize hR : Gl.trim s = R
  replace hR := Lib.hid hR
  go_enter Tryz.func144, Tryz.ntmps144
  go_upto_block 0 with (fail)
  go_cut [0] (fun v w' => w' = w ∧ ∃ t : List UInt8, t.length ≤ 281474976710656 ∧ v = .string ⟨t.toArray⟩ ∧ Hid (Gl.trimR t = R))
  case first =>
    go_wp2
    go_loop [0] (fun v => ∃ t : List UInt8, t.length ≤ 281474976710656 ∧ v = .string ⟨t.toArray⟩ ∧ Hid (Gl.trimR (Gl.trimL t) = R)) (fun v => sizeOfV v)
    case atStart => exact ⟨s, hs, rfl, hR⟩
    case round =>
      obtain ⟨t, ht, rfl, hr⟩ := hrel
      by_cases hlt : 0 < t.length
      · by_cases hb : t[0].toNat ≤ 32
        · have hf : Hid (Gl.trimR (Gl.trimL t.tail) = R) := Lib.hid (by rw [← trimL_cons hlt hb]; exact hr.out)
          go_wp2
          go_round
          case rel => exact ⟨t.tail, by simp; omega, rfl, hf⟩
          case measure => simp [sizeOfV, ByteArray.size]; omega
        · have hf : Hid (Gl.trimR t = R) := Lib.hid (by rw [trimL_stop hlt (by omega)] at hr; exact hr.out)
          go_wp2
          go_meet
          exact ⟨rfl, t, ht, rfl, hf⟩
      · obtain rfl : t = [] := List.eq_nil_of_length_eq_zero (by omega)
        go_wp2
        go_meet
        exact ⟨rfl, [], ht, rfl, hr⟩
  case rest =>
    obtain ⟨rfl, t, ht, rfl, hr⟩ := hcut
    go_wp2
    go_loop [0] (fun v => ∃ t : List UInt8, t.length ≤ 281474976710656 ∧ v = .string ⟨t.toArray⟩ ∧ Hid (Gl.trimR t = R)) (fun v => sizeOfV v)
    case atStart => exact ⟨t, ht, rfl, hr⟩
    case round =>
      clear hr ht
      obtain ⟨t, ht, rfl, hr⟩ := hrel
      by_cases hlt : 0 < t.length
      · have hi : t.length - 1 < t.length := by omega
        by_cases hb : t[t.length - 1].toNat ≤ 32
        · have hf : Hid (Gl.trimR (t.take (t.length - 1)) = R) := Lib.hid (by rw [← trimR_snoc hlt hb]; exact hr.out)
          go_wp2
          go_round
          case rel => exact ⟨_, by simp; omega, rfl, hf⟩
          case measure => simp [sizeOfV, ByteArray.size]; omega
        · have hf : Hid (R = t) := Lib.hid (by rw [trimR_stop hlt (by omega)] at hr; exact hr.out.symm)
          go_wp2
          go_ret
          exact ⟨by rw [hf.out]; rfl, rfl⟩
      · obtain rfl : t = [] := List.eq_nil_of_length_eq_zero (by omega)
        go_wp2
        go_ret
        exact ⟨by rw [← hr.out]; rfl, rfl⟩
end Go.Proofs.YtbafofldgkigmaaGreatDoor

/- glacisref02.Parse: the host that a text is. -/
namespace Go.Proofs.YtbafofldgkigmaaGreatDoor
open Go.RowKit

theorem split_pos (c : UInt8) (s : List UInt8) : 0 < (Gl.split c s).length := by
  have : ∀ (s p : List UInt8), 0 < (Gl.splitGo c p s).length := by
    intro s
    induction s with
    | nil => intro p; simp [Gl.splitGo]
    | cons x r ih => intro p; unfold Gl.splitGo; split <;> simp [ih]
  exact this s []
theorem split_len (c : UInt8) (s : List UInt8) : (Gl.split c s).length ≤ s.length + 1 := by
  have : ∀ (s p : List UInt8), (Gl.splitGo c p s).length ≤ s.length + 1 := by
    intro s
    induction s with
    | nil => intro p; simp [Gl.splitGo]
    | cons x r ih =>
      intro p; unfold Gl.splitGo; split
      · have := ih []; simp; omega
      · have := ih (p ++ [x]); simp; omega
  exact this s []
theorem split_mem (c : UInt8) (s : List UInt8) : ∀ x ∈ Gl.split c s, x.length ≤ s.length := by
  have : ∀ (s p : List UInt8), ∀ x ∈ Gl.splitGo c p s, x.length ≤ p.length + s.length := by
    intro s
    induction s with
    | nil => intro p x hx; simp [Gl.splitGo] at hx; subst hx; simp
    | cons y r ih =>
      intro p x hx; unfold Gl.splitGo at hx; split at hx
      · rcases List.mem_cons.1 hx with rfl | hx
        · omega
        · have := ih [] x hx; simp at this ⊢; omega
      · have := ih (p ++ [y]) x hx; simp at this ⊢; omega
  intro x hx
  simpa using this s [] x hx
theorem ref2_label_at (s : List UInt8) (w : World) (hs : s.length ≤ 281474976710656) {b : Bool} (h : Gl.isLabel s = b) :
    Calls Tryz.prog 206 #[.string ⟨s.toArray⟩] w (Same w (.bool b)) := h ▸ ref2_label s w hs
theorem ref2_digits_at (s : List UInt8) (w : World) (hs : s.length ≤ 281474976710656) {b : Bool} (h : s.all Gl.isDigit = b) :
    Calls Tryz.prog 207 #[.string ⟨s.toArray⟩] w (Same w (.bool b)) := h ▸ ref2_digits s w hs
theorem ref1_number_none (s : List UInt8) (most : Int) (w : World) (hs : s.length ≤ 281474976710656) (h0 : 0 ≤ most) (h1 : most ≤ 4294967296) (h : Gl.number s most = none) :
    Calls Tryz.prog 185 #[.string ⟨s.toArray⟩, .int .i64 most] w (Same w (.tuple #[.int .i64 0, .bool false])) := by
  have := ref1_number s most w hs h0 h1; rw [h] at this; exact this
theorem ref1_number_some (s : List UInt8) (most n : Int) (w : World) (hs : s.length ≤ 281474976710656) (h0 : 0 ≤ most) (h1 : most ≤ 4294967296) (h : Gl.number s most = some n) :
    Calls Tryz.prog 185 #[.string ⟨s.toArray⟩, .int .i64 most] w (Same w (.tuple #[.int .i64 n, .bool true])) := by
  have := ref1_number s most w hs h0 h1; rw [h] at this; exact this
theorem numGo_range {most : Int} : ∀ {s : List UInt8} {m n : Int}, 0 ≤ m → m ≤ most → Gl.numGo most m s = some n → 0 ≤ n ∧ n ≤ most := by
  intro s
  induction s with
  | nil => intro m n h0 h1 h; simp [Gl.numGo] at h; omega
  | cons c r ih =>
    intro m n h0 h1 h
    unfold Gl.numGo at h
    split at h
    · cases h
    · split at h
      · cases h
      · exact ih (by omega) (by omega) h
theorem number_range {s : List UInt8} {most n : Int} (h0 : 0 ≤ most) (h : Gl.number s most = some n) : 0 ≤ n ∧ n ≤ most := by
  unfold Gl.number at h
  split at h
  · cases h
  · exact numGo_range (Int.le_refl _) h0 h
theorem drop_consL {L : List (List UInt8)} {k : Nat} (h : k < L.length) : L.drop k = L[k] :: L.drop (k + 1) := List.drop_eq_getElem_cons h
theorem lower_length (s : List UInt8) : (Gl.lower s).length = s.length := by simp [Gl.lower]

set_option maxHeartbeats 2000000 in
set_option maxRecDepth 100000 in
theorem ref2_parse (s0 : List UInt8) (w : World) (hs0 : s0.length ≤ 281474976710000) :
    Calls Tryz.prog 184 #[(Value.string ⟨(s0).toArray⟩)] w (Ret w (.tuple #[(Value.agg #[(Value.string ⟨(((Gl.hostParse s0).1).name).toArray⟩), (Value.bool ((Gl.hostParse s0).1).v4), (Value.int .u32 (((Gl.hostParse s0).1).addr : Int))]), .int .i64 (Gl.hostParse s0).2])) := by
  have hRR : Gl.hostParse s0 = Gl.hostOf (Gl.lower s0) := rfl
  have hl := lower_length s0
  generalize hR : Gl.hostParse s0 = R
  rw [hR] at hRR
  clear hR
  generalize hS : Gl.lower s0 = s at *
  replace hS := Lib.hid hS
  replace hRR := Lib.hid hRR
  have hs : s.length ≤ 281474976710000 := by omega
  clear hl
  replace hs0 : s0.length ≤ 281474976710656 := by omega
  by_cases h1 : s.length < 1 ∨ 253 < s.length
  · have hf : Hid (R = ({}, 20)) := Lib.hid (by rw [hRR.out, Gl.hostOf, if_pos h1])
    rcases h1 with h1 | h1
    all_goals
      go_enter Tryz.func184, Tryz.ntmps184
      go_wp2_with (first | (go_at_call 141; refine (hS.out ▸ ref1_lower s0 _ hs0).mono ?_; rintro e w1 ⟨rfl, hb⟩; obtain ⟨hc, hfz⟩ := bcell hb; have hz := hb.size; (try simp at hz); (try have hz0 := lt_ hb w.heap.size); (try have hz1 := lt_ hb (w.heap.size + 1)); (try have hz2 := lt_ hb (w.heap.size + 2)); (try have hz3 := lt_ hb (w.heap.size + 3)); (try have hcA := fun o => hc w.heap.size o sz_); (try have hcB := fun o => hc (w.heap.size + 1) o sz_)))
      refine bodyPost_ret (v := .tuple #[(Value.agg #[(Value.string ⟨#[]⟩), (Value.bool false), (Value.int .u32 0)]), .int .i64 20]) (by simp only [results, Tryz.results184]; go_simp) rfl ⟨by rw [hf.out] <;> rfl, ?_⟩
      (exact bw_)
  · have hl1 : 1 ≤ s.length := by omega
    have hl2 : s.length ≤ 253 := by omega
    replace hRR : Hid (R = Gl.host1 s (Gl.split 46 s)) := Lib.hid (hRR.out.trans (by rw [Gl.hostOf, if_neg h1]))
    clear h1
    have hpos := split_pos 46 s
    have hlen := split_len 46 s
    generalize hL : Gl.split 46 s = L at *
    replace hL := Lib.hid hL
    go_enter Tryz.func184, Tryz.ntmps184
    go_wp2_with (first | (go_at_call 141; refine (hS.out ▸ ref1_lower s0 _ hs0).mono ?_; rintro e w1 ⟨rfl, hb⟩; obtain ⟨hc, hfz⟩ := bcell hb; have hz := hb.size; (try simp at hz); (try have hz0 := lt_ hb w.heap.size); (try have hz1 := lt_ hb (w.heap.size + 1)); (try have hz2 := lt_ hb (w.heap.size + 2)); (try have hz3 := lt_ hb (w.heap.size + 3)); (try have hcA := fun o => hc w.heap.size o sz_); (try have hcB := fun o => hc (w.heap.size + 1) o sz_)) | (go_at_call 191; refine ( hL.out ▸ ref1_split s 46 _ (by omega)).mono ?_; rintro e w1 ⟨v, rfl, hst, hb⟩; obtain ⟨hc, hfz⟩ := bcell hb; have hz := hb.size; (try simp at hz); (try have hz0 := lt_ hb w.heap.size); (try have hz1 := lt_ hb (w.heap.size + 1)); (try have hz2 := lt_ hb (w.heap.size + 2)); (try have hz3 := lt_ hb (w.heap.size + 3)); obtain ⟨lb, lc, hlc, hlm, hlB, hlv, _, hlcell⟩ := hst.at_; obtain rfl := hlv ( hpos); obtain ⟨hlb, hlB⟩ := hlB ( hpos)))
    have hmem : ∀ k, (h : k < L.length) → (L[k]).length ≤ 281474976710656 := fun k h => by
      have := split_mem 46 s L[k] (by rw [hL.out]; exact List.getElem_mem h); omega
    replace hmem := Lib.hid hmem
    replace hlcell := Lib.hid hlcell
    clear hst hlv
    go_loop [5, 6] (fun i _ => ∃ k : Nat, k ≤ L.length ∧ i = .int .i64 k ∧ Hid ((L.drop k).all Gl.isLabel = L.all Gl.isLabel)) (fun i _ => L.length - (intOf i).toNat)
    case atStart => exact ⟨0, Nat.zero_le _, rfl, Lib.hid rfl⟩
    case round =>
      obtain ⟨k, hk, rfl, hr⟩ := hrel
      by_cases hlt : k < L.length
      · rw [drop_consL hlt] at hr
        have hck := hlcell.out k hlt
        have hmk := hmem.out k hlt
        cases hb1 : Gl.isLabel L[k] with
        | true =>
          have hf : Hid ((L.drop (k + 1)).all Gl.isLabel = L.all Gl.isLabel) := Lib.hid (by rw [← hr.out, List.all_cons, hb1, Bool.true_and])
          replace hb1 := Lib.hid hb1
          go_wp2_with (go_at_call 206; refine ( ref2_label_at _ _ hmk hb1.out).mono ?_; rintro e w1 ⟨rfl, rfl⟩)
          go_round
          case rel => exact ⟨k + 1, by omega, by go_num, hf⟩
          case measure => simp [intOf]; omega
        | false =>
          have hf : Hid (R = ({}, 20)) := Lib.hid (by rw [hRR.out, Gl.host1, ← hr.out, List.all_cons, hb1]; rfl)
          replace hb1 := Lib.hid hb1
          go_wp2_with (go_at_call 206; refine ( ref2_label_at _ _ hmk hb1.out).mono ?_; rintro e w1 ⟨rfl, rfl⟩)
          refine bodyPost_ret (v := .tuple #[(Value.agg #[(Value.string ⟨#[]⟩), (Value.bool false), (Value.int .u32 0)]), .int .i64 20]) (by simp only [results, Tryz.results184]; go_simp) rfl ⟨by rw [hf.out] <;> rfl, ?_⟩
          (exact bw_)
      · rw [List.drop_eq_nil_of_le (by omega)] at hr
        replace hRR : Hid (R = Gl.host2 s L) := Lib.hid (hRR.out.trans (by rw [Gl.host1, ← hr.out]; rfl))
        clear hr
        have hlast := hlcell.out (L.length - 1) (by omega)
        have hml := hmem.out (L.length - 1) (by omega)
        have hgl : L.getLast?.getD [] = L[L.length - 1] := by
          rw [List.getLast?_eq_getElem?, List.getElem?_eq_getElem (by omega)]; rfl
        cases hb1 : (L[L.length - 1]).all Gl.isDigit with
        | false =>
          have hf : Hid (R = ({ name := s }, 0)) := Lib.hid (by rw [hRR.out, Gl.host2, hgl, hb1]; rfl)
          replace hb1 := Lib.hid hb1
          clear hgl
          go_wp2_with (go_at_call 207; refine ( ref2_digits_at _ _ hml hb1.out).mono ?_; rintro e w1 ⟨rfl, rfl⟩)
          refine bodyPost_ret (v := .tuple #[(Value.agg #[(Value.string ⟨(s).toArray⟩), (Value.bool false), (Value.int .u32 0)]), .int .i64 0]) (by simp only [results, Tryz.results184]; go_simp) rfl ⟨by rw [hf.out] <;> rfl, ?_⟩
          (exact bw_)
        | true =>
          replace hRR : Hid (R = if L.length ≠ 4 then ({}, 20) else Gl.host3 L) := Lib.hid (hRR.out.trans (by rw [Gl.host2, hgl, hb1]; rfl))
          replace hb1 := Lib.hid hb1
          clear hgl
          by_cases h4 : L.length = 4
          · have h4' : ((L.length : Int) != 4) = false := by rw [h4]; rfl
            have hf : Hid (R = match Gl.addrGo 0 (L.drop 0) with | none => ({}, 20) | some a => ({ v4 := true, addr := a }, 0)) := Lib.hid (by rw [hRR.out, if_neg (fun h => h h4)]; rfl)
            have h4a : L.length ≤ 4 := by omega
            have h4b : 4 ≤ L.length := by omega
            clear hRR
            replace h4 := Lib.hid h4
            go_wp2_with (go_at_call 207; refine ( ref2_digits_at _ _ hml hb1.out).mono ?_; rintro e w1 ⟨rfl, rfl⟩)
            go_loop [8, 9, 10, 11] (fun ad i _ _ => ∃ k a : Nat, k ≤ 4 ∧ i = .int .i64 k ∧ ad = .int .u32 a ∧ a < 256 ^ k ∧ Hid (R = match Gl.addrGo a (L.drop k) with | none => ({}, 20) | some a => ({ v4 := true, addr := a }, 0))) (fun _ i _ _ => 4 - (intOf i).toNat)
            case atStart => exact ⟨0, 0, by omega, rfl, rfl, by omega, hf⟩
            case round =>
              obtain ⟨k, a, hk, rfl, rfl, ha, hr⟩ := hrel
              by_cases hlt : k < 4
              · have hlt' : k < L.length := by omega
                rw [drop_consL hlt'] at hr
                have hck := hlcell.out k hlt'
                have hmk := hmem.out k hlt'
                cases hn : Gl.number L[k] 255 with
                | none =>
                  replace hr : Hid (R = ({}, 20)) := Lib.hid (by rw [hr.out, Gl.addrGo, hn])
                  replace hn := Lib.hid hn
                  go_wp2_with (go_at_call 185; refine ( ref1_number_none _ _ _ hmk (by omega) (by omega) hn.out).mono ?_; rintro e w1 ⟨rfl, rfl⟩)
                  refine bodyPost_ret (v := .tuple #[(Value.agg #[(Value.string ⟨#[]⟩), (Value.bool false), (Value.int .u32 0)]), .int .i64 20]) (by simp only [results, Tryz.results184]; go_simp) rfl ⟨by rw [hr.out] <;> rfl, ?_⟩
                  (exact bw_)
                | some n =>
                  obtain ⟨hn0, hn1⟩ := number_range (by omega) hn
                  obtain ⟨m, rfl⟩ := Int.eq_ofNat_of_zero_le hn0
                  replace hr := Lib.hid (hr.out.trans (by rw [Gl.addrGo, hn]))
                  replace hn := Lib.hid hn
                  have ha2 : (a : Int) ≤ 16777215 := by
                    have : 256 ^ k ≤ 256 ^ 3 := Nat.pow_le_pow_right (by omega) (by omega)
                    omega
                  go_wp2_with (go_at_call 185; refine ( ref1_number_some _ _ _ _ hmk (by omega) (by omega) hn.out).mono ?_; rintro e w1 ⟨rfl, rfl⟩)
                  go_round
                  case rel =>
                    refine ⟨k + 1, a * 256 + m, by omega, by go_num, by push_cast; rfl, ?_, ?_⟩
                    · rw [Nat.pow_succ]; omega
                    · rw [show (a * 256 + ((m : Nat) : Int).toNat) % 4294967296 = a * 256 + m from by rw [Int.toNat_natCast]; omega] at hr
                      exact hr
                  case measure => simp [intOf]; omega
              · have hk4 : k = 4 := by omega
                subst hk4
                have h4l := h4.out
                replace hr : Hid (R = ({ v4 := true, addr := a }, 0)) := Lib.hid (by rw [hr.out, List.drop_eq_nil_of_le (by omega)]; rfl)
                clear h4l ha
                go_wp2
                refine bodyPost_ret (v := .tuple #[(Value.agg #[(Value.string ⟨#[]⟩), (Value.bool true), (Value.int .u32 (a : Int))]), .int .i64 0]) (by simp only [results, Tryz.results184]; go_simp) rfl ⟨by rw [hr.out] <;> rfl, ?_⟩
                (exact bw_)
          · have h4' : ((L.length : Int) != 4) = true := by rw [bne_iff_ne]; omega
            have hf : Hid (R = ({}, 20)) := Lib.hid (by rw [hRR.out, if_pos h4])
            replace h4 := Lib.hid h4
            go_wp2_with (go_at_call 207; refine ( ref2_digits_at _ _ hml hb1.out).mono ?_; rintro e w1 ⟨rfl, rfl⟩)
            refine bodyPost_ret (v := .tuple #[(Value.agg #[(Value.string ⟨#[]⟩), (Value.bool false), (Value.int .u32 0)]), .int .i64 20]) (by simp only [results, Tryz.results184]; go_simp) rfl ⟨by rw [hf.out] <;> rfl, ?_⟩
            (exact bw_)
end Go.Proofs.YtbafofldgkigmaaGreatDoor
namespace Go.Proofs.YtbafofldgkigmaaGreatDoor
open Go.RowKit

theorem host_digit (c : UInt8) (w : World) :
    Calls Tryz.prog 113 #[.int .u8 c.toNat] w (Same w (.bool (Gl.isDigit c))) := by
  go_enter Tryz.func113, Tryz.ntmps113
  go_wp2
  all_goals
    go_ret
    exact ret_bool (by simp [Gl.isDigit]; omega)
theorem host_digit_at (c : UInt8) (w : World) {b : Bool} (h : Gl.isDigit c = b) :
    Calls Tryz.prog 113 #[.int .u8 c.toNat] w (Same w (.bool b)) := h ▸ host_digit c w

theorem host_small (c : UInt8) (w : World) :
    Calls Tryz.prog 112 #[.int .u8 c.toNat] w (Same w (.bool (Gl.isSmall c))) := by
  cases hd : Gl.isDigit c with
  | true =>
    have hd1 : 48 ≤ (c.toNat : Int) := by simp [Gl.isDigit] at hd; omega
    have hd2 : (c.toNat : Int) ≤ 57 := by simp [Gl.isDigit] at hd; omega
    replace hd := Lib.hid hd
    go_enter Tryz.func112, Tryz.ntmps112
    go_wp2_with (go_at_call 113; refine ( host_digit_at _ _ hd.out).mono ?_; rintro e w1 ⟨rfl, rfl⟩)
    all_goals
      go_ret
      exact ret_bool (by simp [Gl.isSmall]; omega)
  | false =>
    have hd1 : Hid ((c.toNat : Int) < 48 ∨ 57 < (c.toNat : Int)) := Lib.hid (by simp [Gl.isDigit] at hd; omega)
    replace hd := Lib.hid hd
    go_enter Tryz.func112, Tryz.ntmps112
    go_wp2_with (go_at_call 113; refine ( host_digit_at _ _ hd.out).mono ?_; rintro e w1 ⟨rfl, rfl⟩)
    all_goals
      go_ret
      exact ret_bool (by have := hd1.out; simp [Gl.isSmall] at *; omega)

/-- 'fits' at a test that is a function of the package's own. -/
theorem host_fits_small (s : List UInt8) (w : World) (hs : s.length ≤ 281474976710656) :
    Calls Tryz.prog 111 #[(Value.string ⟨(s).toArray⟩), .func (.func 112) #[] #[]] w (Same w (.bool (s.all Gl.isSmall))) := by
  generalize hR : s.all Gl.isSmall = R
  replace hR := Lib.hid hR
  go_enter Tryz.func111, Tryz.ntmps111
  go_wp2
  go_loop [5, 8] (fun _ i => ∃ k : Nat, k ≤ s.length ∧ i = .int .i64 k ∧ Hid ((s.drop k).all Gl.isSmall = R)) (fun _ i => s.length - (intOf i).toNat)
  case atStart => exact ⟨0, Nat.zero_le _, rfl, hR⟩
  case round =>
    obtain ⟨k, hk, rfl, hr⟩ := hrel
    by_cases hlt : k < s.length
    · rw [drop_cons hlt] at hr
      cases hb : Gl.isSmall s[k] with
      | true =>
        have hf : Hid ((s.drop (k + 1)).all Gl.isSmall = R) := Lib.hid (by rw [← hr.out, List.all_cons, hb, Bool.true_and])
        have hc : Hid (∀ w, Calls Tryz.prog 112 #[.int .u8 (s[k].toNat : Int)] w (Same w (.bool true))) := Lib.hid (fun w => hb ▸ host_small s[k] w)
        go_wp2_with (go_at_call 112; refine ( hc.out _).mono ?_; rintro e w1 ⟨rfl, rfl⟩)
        go_round
        case rel => exact ⟨k + 1, by omega, by go_num, hf⟩
        case measure => simp [intOf]; omega
      | false =>
        have hf : Hid (R = false) := Lib.hid (by rw [← hr.out, List.all_cons, hb, Bool.false_and])
        have hc : Hid (∀ w, Calls Tryz.prog 112 #[.int .u8 (s[k].toNat : Int)] w (Same w (.bool false))) := Lib.hid (fun w => hb ▸ host_small s[k] w)
        go_wp2_with (go_at_call 112; refine ( hc.out _).mono ?_; rintro e w1 ⟨rfl, rfl⟩)
        go_ret
        exact ret_bool (by rw [hf.out])
    · rw [List.drop_eq_nil_of_le (by omega)] at hr
      go_wp2
      go_ret
      exact ret_bool (by rw [← hr.out]; simp)
set_option maxHeartbeats 400000 in
theorem host_fits_digit (s : List UInt8) (w : World) (hs : s.length ≤ 281474976710656) :
    Calls Tryz.prog 111 #[(Value.string ⟨(s).toArray⟩), .func (.func 113) #[] #[]] w (Same w (.bool (s.all Gl.isDigit))) := by
  generalize hR : s.all Gl.isDigit = R
  replace hR := Lib.hid hR
  go_enter Tryz.func111, Tryz.ntmps111
  go_wp2
  go_loop [5, 8] (fun _ i => ∃ k : Nat, k ≤ s.length ∧ i = .int .i64 k ∧ Hid ((s.drop k).all Gl.isDigit = R)) (fun _ i => s.length - (intOf i).toNat)
  case atStart => exact ⟨0, Nat.zero_le _, rfl, hR⟩
  case round =>
    obtain ⟨k, hk, rfl, hr⟩ := hrel
    by_cases hlt : k < s.length
    · rw [drop_cons hlt] at hr
      cases hb : Gl.isDigit s[k] with
      | true =>
        have hf : Hid ((s.drop (k + 1)).all Gl.isDigit = R) := Lib.hid (by rw [← hr.out, List.all_cons, hb, Bool.true_and])
        have hc : Hid (∀ w, Calls Tryz.prog 113 #[.int .u8 (s[k].toNat : Int)] w (Same w (.bool true))) := Lib.hid (fun w => hb ▸ host_digit s[k] w)
        go_wp2_with (go_at_call 113; refine ( hc.out _).mono ?_; rintro e w1 ⟨rfl, rfl⟩)
        go_round
        case rel => exact ⟨k + 1, by omega, by go_num, hf⟩
        case measure => simp [intOf]; omega
      | false =>
        have hf : Hid (R = false) := Lib.hid (by rw [← hr.out, List.all_cons, hb, Bool.false_and])
        have hc : Hid (∀ w, Calls Tryz.prog 113 #[.int .u8 (s[k].toNat : Int)] w (Same w (.bool false))) := Lib.hid (fun w => hb ▸ host_digit s[k] w)
        go_wp2_with (go_at_call 113; refine ( hc.out _).mono ?_; rintro e w1 ⟨rfl, rfl⟩)
        go_ret
        exact ret_bool (by rw [hf.out])
    · rw [List.drop_eq_nil_of_le (by omega)] at hr
      go_wp2
      go_ret
      exact ret_bool (by rw [← hr.out]; simp)

end Go.Proofs.YtbafofldgkigmaaGreatDoor
