/- host.labels: a range over a function: the labels of a name, one by one. -/
import Derived.RangeFuncNested
import Derived.RangeFuncBound
import Derived.RangeFuncCalls
import Derived.RangeFuncLeaves
import Derived.Shelf.Abstract
import Derived.Shelf.RegionOpen
import Derived.OwnWalkIn
import Derived.TacticsInMore
import Derived.LoopNIn
import Derived.LoopIn
import Derived.Test.YthmgcnaoionmoaaDoorHost
namespace Go.Proofs.YthmgcnaoionmoaaDoor
open Go.RowKit Go.Shelf
attribute [local go_sem] Oper.semAt_some

theorem Blk.own {w w' : World} {g : Nat} {t : TypeId} {cs : Array Value} {row : Option Nat} (h : Blk w g t cs) (hg : w.grownBy w' row) (hr : ∀ r, row = some r → ∃ o : Obj, w.heap[r]? = some o ∧ o.isCells = false) : Blk w' g t cs := by
  refine (hg.block g h.lt (fun e => ?_)).trans h
  obtain ⟨o, ho, hc⟩ := hr g e.symm
  unfold Blk at h
  rw [h] at ho
  cases ho
  cases hc

/-- A label, and its place. -/
abbrev Lab := { x : Nat × List UInt8 // x.2.length ≤ 281474976710656 }
def encLab (x : Lab) : Array Value := #[.int .i64 (x.1.1 : Int), .string ⟨x.1.2.toArray⟩]

/-- What a round keeps: whatever cells lie from block m on. -/
def Upper (m : Nat) (W W' : World) : Prop := W.heap.size ≤ W'.heap.size ∧ ∀ k c t f, m ≤ k → W.heap[k]? = some (.cells c t f) → W'.heap[k]? = some (.cells c t f)
theorem Upper.trans {m : Nat} {A B C : World} (h : Upper m A B) (k : Upper m B C) : Upper m A C := ⟨Nat.le_trans h.1 k.1, fun i c t f hi hc => k.2 i c t f hi (h.2 i c t f hi hc)⟩
theorem Upper.refl (m : Nat) (W : World) : Upper m W W := ⟨Nat.le_refl _, fun _ _ _ _ _ h => h⟩
theorem Upper.putObj {m : Nat} (W : World) (l : Nat) (o o' : Obj) (h : W.heap[l]? = some o) (ho : o.isCells = false) : Upper m W (W.putObj l o') := by
  refine ⟨by simp, fun k c t f _ hc => ?_⟩
  by_cases e : k = l
  · subst e
    rw [h] at hc
    cases hc
    cases ho
  · rw [World.putObj_heap_other e]
    exact hc
theorem Upper.setCell {m : Nat} {A W : World} (h : Upper m A W) {p : Addr} (hp : p.block < m) (v : Value) : Upper m A (W.setCell p v) :=
  ⟨by have := h.1; simpa using this, fun k c t f hk hc => by
    rw [Below.heap_setCell _ _ _ _ (by omega)]
    exact h.2 k c t f hk hc⟩
theorem Upper.alloc {m : Nat} {A W : World} (h : Upper m A W) (o : Obj) : Upper m A (W.alloc o) :=
  ⟨by have := h.1; simp; omega, fun k c t f hk hc => by
    have := h.2 k c t f hk hc
    rw [Below.heap_alloc _ _ _ (Array.getElem?_eq_some_iff.1 this).1]
    exact this⟩
theorem Upper.strs {m b : Nat} {W W' : World} {L : List (List UInt8)} (h : Upper m W W') (hb : m ≤ b) (hc : ∀ j, (h : j < L.length) → W.cell? ⟨b, j, none⟩ = some (.string ⟨(L[j]).toArray⟩)) :
    ∀ j, (h : j < L.length) → W'.cell? ⟨b, j, none⟩ = some (.string ⟨(L[j]).toArray⟩) := by
  intro j hj
  have := hc j hj
  unfold World.cell? at this ⊢
  split at this
  · rename_i e
    have e' := h.2 b _ _ _ hb e
    rw [e']
    exact this
  · cases this

theorem host_labels (s : List UInt8) (w : World) :
    Calls Tryd.prog 97 #[(Value.string ⟨(s).toArray⟩)] w (fun e w' => e = .returned (.func (.func 114) #[] #[.pointer (some ⟨w.heap.size, 0, none⟩)]) ∧ w' = w.alloc (.cells #[(Value.string ⟨(s).toArray⟩)] 9)) := by
  go_enter Tryd.func97, Tryd.ntmps97
  go_wp2
  go_ret
  exact ⟨rfl, rfl⟩

set_option maxRecDepth 100000 in
set_option maxHeartbeats 2000000 in
theorem labels1_in (n : Nat) (hn : 1 ≤ n) (l Bs m : Nat) (s : List UInt8) (hs : s.length ≤ 281474976710656) (hs2 : s.length ≤ 1099511627774) (J Jx : List Lab → World → Prop) (W : World)
    (hY : ∀ pre x W, J pre W → pre.length < (Gl.split 46 s).length → YieldAt Fence.wide (n - 1) Tryd.prog l (encLab x) W fun e W' =>
      (e = .returned (.bool true) ∧ J (pre ++ [x]) W' ∧ Upper m W W') ∨ (e = .returned (.bool false) ∧ Jx (pre ++ [x]) W'))
    (hJ : AbidesFrom W.heap.size J) (hm : m ≤ W.heap.size) (hBs : W.cell? ⟨Bs, 0, none⟩ = some (.string ⟨s.toArray⟩)) (h0 : J [] W) :
    CallsIn Fence.wide n Tryd.prog 114 #[.func (.yield l) #[] #[], .pointer (some ⟨Bs, 0, none⟩)] W fun e W' => (∃ v, e = .returned v) ∧
      ((∃ ys : List Lab, ys.map (fun x => x.1.2) = Gl.split 46 s ∧ J ys W') ∨ (∃ pre : List Lab, pre.map (fun x => x.1.2) <+: Gl.split 46 s ∧ Jx pre W')) := by
  have hpos := split_pos 46 s
  have hlen := split_len 46 s
  have hmem := split_mem 46 s
  generalize hL : Gl.split 46 s = L at *
  replace hL := Lib.hid hL
  replace hmem := Lib.hid hmem
  refine callsIn_of_wp Tryd.func114 rfl trivial ?_ rfl
  simp only [Tryd.ntmps114, List.size_toArray, List.length_cons, List.length_nil, Nat.reduceAdd, Nat.reduceSub, Array.replicate_succ, Array.replicate_zero, List.push_toArray, List.append_toArray, List.nil_append, List.cons_append]
  gi_wp2_with (refine ⟨trivial, ?_⟩; gi_at_call 28; refine (callsIn_wide.2 (hL.out ▸ octet_split s 46 _ hs2)).mono ?_; rintro e w1 ⟨v, rfl, hst, hb⟩; obtain ⟨lb, lc, hlc, hlm, hlB, hlv, _, hlcell⟩ := hst.at_; obtain rfl := hlv hpos; obtain ⟨hlb, hlB⟩ := hlB hpos)
  replace hlcell := Lib.hid hlcell
  clear hst hlv
  gi_loopw [3, 4, 8] (fun _ _ i wr => ∃ (k : Nat) (pre : List Lab), k ≤ L.length ∧ i = .int .i64 k ∧ pre.map (fun x => x.1.2) = L.take k ∧ J pre wr ∧ Upper m w1 wr)
    (fun _ _ i _ => L.length - (intOf i).toNat)
  case atStart => exact ⟨0, [], Nat.zero_le _, rfl, rfl, hJ _ _ _ none h0 ⟨hb.os, hb.tape, hb.output, hb.size, fun k hk _ => hb.block k hk⟩ (fun r e => by cases e), Upper.refl _ _⟩
  case round =>
    obtain ⟨k, pre, hk, rfl, hpre, hJs, hup⟩ := hrel
    have hpl : pre.length = min k L.length := by have := congrArg List.length hpre; simpa using this
    by_cases hlt : k < L.length
    · have hcx := hup.strs (by omega) hlcell.out k hlt
      have hml : (L[k]).length ≤ 281474976710656 := by have := hmem.out L[k] (List.getElem_mem hlt); omega
      obtain ⟨fn, tmps, assign, body, hy, hR⟩ := hY pre ⟨(k, L[k]), hml⟩ wr hJs (by omega)
      simp only [encLab] at hy
      clear hJ
      replace hpl := Lib.hid hpl
      gi_wp2
      refine hR.mono ?_
      rintro e W3 (⟨rfl, hJ3, hk3⟩ | ⟨rfl, hJx3⟩)
      · gi_wp2
        go_roundw
        case rel => exact ⟨k + 1, pre ++ [⟨(k, L[k]), hml⟩], by omega, by go_num, by rw [List.map_append, hpre, List.take_succ_eq_append_getElem hlt]; rfl, hJ3, hup.trans hk3⟩
        case measure => simp [intOf]; omega
      · gi_wp2
        refine bodyPost_ret (results_none rfl _ _ _) rfl ?_
        refine ⟨⟨_, rfl⟩, .inr ⟨pre ++ [⟨(k, L[k]), hml⟩], ?_, hJx3⟩⟩
        rw [List.map_append, hpre]
        exact ⟨L.drop (k + 1), by rw [show L.take k ++ List.map (fun x : Lab => x.1.2) [⟨(k, L[k]), hml⟩] = L.take (k + 1) from by rw [List.take_succ_eq_append_getElem hlt]; rfl]; exact List.take_append_drop _ _⟩
    · obtain rfl : k = L.length := by omega
      rw [List.take_length] at hpre
      gi_wp2
      go_end0
      exact ⟨⟨_, rfl⟩, .inl ⟨pre, hpre, hJs⟩⟩

theorem labels_stops (n : Nat) (hn : 1 ≤ n) (Bs m : Nat) (s : List UInt8) (hs : s.length ≤ 281474976710656) (hs2 : s.length ≤ 1099511627774) (w : World) (hB : Bs < w.heap.size) (hm : m ≤ w.heap.size) (hBs : w.cell? ⟨Bs, 0, none⟩ = some (.string ⟨s.toArray⟩)) :
    SeqStopsK Fence.wide n Tryd.prog 114 #[.pointer (some ⟨Bs, 0, none⟩)] encLab (Upper m) (fun ys => ys.map (fun x => x.1.2) = Gl.split 46 s) (fun pre => pre.map (fun x => x.1.2) <+: Gl.split 46 s) (Gl.split 46 s).length w :=
  fun l J Jx W hW hJ _ hY h0 => labels1_in n hn l Bs m s hs hs2 J Jx W hY hJ (by have := hW.size; omega) ((hW.cell (p := ⟨Bs, 0, none⟩) hB).trans hBs) h0

end Go.Proofs.YthmgcnaoionmoaaDoor
