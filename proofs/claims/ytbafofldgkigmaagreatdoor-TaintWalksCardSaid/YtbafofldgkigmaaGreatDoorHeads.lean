/- headers.Values: a range over a function: the values of a name, gathered. -/
import Derived.RangeFuncNested
import Derived.RangeFuncBound
import Derived.RangeFuncCalls
import Derived.RangeFuncLeaves
import Derived.Shelf.Abstract
import Derived.Shelf.RegionOpen
import Derived.OwnWalkIn
import Derived.TacticsInMore
import Derived.LoopNIn
import Derived.LoopIn
import Derived.Maps.AppendAt
import Derived.Test.YtbafofldgkigmaaGreatDoorHeadText
import Derived.Test.YtbafofldgkigmaaGreatDoorSlots
import Derived.Test.YtbafofldgkigmaaGreatDoorOne
namespace Go.Proofs.YtbafofldgkigmaaGreatDoor
open Go.RowKit Go.Shelf
attribute [local go_sem] Oper.semAt_some
/-- A line of a head. -/
structure Gl.Head where
  name : List UInt8
  value : List UInt8
def hcells (h : Gl.Head) : Array Value := #[(Value.string ⟨(h.name).toArray⟩), (Value.string ⟨(h.value).toArray⟩)]
def Heads (w : World) (v : Value) (L : List Gl.Head) : Prop := Slots w w.heap.size v 2 (L.map hcells)
theorem Heads.form {w : World} {v : Value} {L : List Gl.Head} (h : Heads w v L) : ∃ A c, v = .slice A L.length c := by
  obtain ⟨A, c, hv, _⟩ := h
  exact ⟨A, c, by simpa using hv⟩
theorem Heads.below {w w' : World} {v : Value} {L : List Gl.Head} (h : Heads w v L) (hb : Below w.heap.size w w') : Heads w' v L := Slots.below h hb
theorem Heads.cells {w : World} {v : Value} {L : List Gl.Head} (h : Heads w v L) (k : Nat) (hk : k < L.length) : ∃ b o c, v = .slice (some ⟨b, o, none⟩) L.length c ∧ b < w.heap.size ∧ ∀ i, i < 2 → w.cell? ⟨b, o + k * 2 + i, none⟩ = (hcells L[k])[i]? := by
  obtain ⟨b, o, c, hv, hB, hc⟩ := Slots.cells h k (by simpa using hk)
  exact ⟨b, o, c, by simpa using hv, hB, fun i hi => by have := hc k (by simpa using hk) i hi; simpa using this⟩
/-- The values of a name, in order. -/
def Gl.values (L : List Gl.Head) (n : List UInt8) : List (List UInt8) := (L.filter (fun h => Gl.foldS h.name n)).map (fun h => Gl.trimH h.value)
theorem values_cons (h : Gl.Head) (r : List Gl.Head) (n : List UInt8) : Gl.values (h :: r) n = if Gl.foldS h.name n then Gl.trimH h.value :: Gl.values r n else Gl.values r n := by
  unfold Gl.values
  rw [List.filter_cons]
  split <;> rfl
theorem values_len (L : List Gl.Head) (n : List UInt8) : (Gl.values L n).length ≤ L.length := by
  unfold Gl.values
  rw [List.length_map]
  exact List.length_filter_le _ _
theorem values_app (a b : List Gl.Head) (n : List UInt8) : Gl.values (a ++ b) n = Gl.values a n ++ Gl.values b n := by simp [Gl.values]
structure HeadFit (h : Gl.Head) : Prop where
  name : h.name.length ≤ 1000000
  value : h.value.length ≤ 1000000
abbrev Val := { x : List UInt8 // x.length ≤ 281474976710656 }
def encVal (x : Val) : Array Value := #[.string ⟨x.1.toArray⟩]
theorem head_values (A : Option Addr) (m c : Nat) (n : List UInt8) (w : World) :
    Calls Tryz.prog 71 #[.slice A m c, (Value.string ⟨(n).toArray⟩)] w (fun e w' => e = .returned (.func (.func 98) #[] #[.pointer (some ⟨w.heap.size, 0, none⟩), .pointer (some ⟨w.heap.size + 1, 0, none⟩)]) ∧ w' = (w.alloc (.cells #[.slice A m c] 29)).alloc (.cells #[(Value.string ⟨(n).toArray⟩)] 9)) := by
  go_enter Tryz.func71, Tryz.ntmps71
  go_wp2
  go_ret
  exact ⟨rfl, rfl⟩
/-- What a round keeps: all below n0, and the cells of two blocks. -/
def VK (n0 Ba Bb : Nat) (W W' : World) : Prop := Below n0 W W' ∧ ∀ k, k = Ba ∨ k = Bb → ∀ c t f, W.heap[k]? = some (.cells c t f) → W'.heap[k]? = some (.cells c t f)
theorem VK.refl (n0 Ba Bb : Nat) (W : World) : VK n0 Ba Bb W W := ⟨Below.refl _ _, fun _ _ _ _ _ h => h⟩
theorem VK.trans {n0 Ba Bb : Nat} {A B C : World} (h : VK n0 Ba Bb A B) (k : VK n0 Ba Bb B C) : VK n0 Ba Bb A C := ⟨h.1.trans k.1, fun i hi c t f hc => k.2 i hi c t f (h.2 i hi c t f hc)⟩
theorem VK.putObj {n0 Ba Bb : Nat} {w : World} (hn : n0 ≤ w.heap.size) (W : World) (l : Nat) (o o' : Obj) (hl : w.heap.size ≤ l) (h : W.heap[l]? = some o) (ho : o.isCells = false) (hw : o.isWalk = false) : VK n0 Ba Bb W (W.putObj l o') :=
  ⟨belowK_b hn W l o o' hl h ho hw, fun k _ c t f hc => by
    by_cases e : k = l
    · subst e
      rw [h] at hc
      cases hc
      cases ho
    · rw [World.putObj_heap_other e]
      exact hc⟩
theorem VK.of {n0 Ba Bb : Nat} {W W' : World} (h : Below W.heap.size W W') (hn : n0 ≤ W.heap.size) : VK n0 Ba Bb W W' :=
  ⟨h.mono hn, fun k _ c t f hc => by rw [h.block k (Array.getElem?_eq_some_iff.1 hc).1]; exact hc⟩
theorem VK.blk {n0 Ba Bb : Nat} {W W' : World} (h : VK n0 Ba Bb W W') {k : Nat} (hk : k = Ba ∨ k = Bb) {t : TypeId} {cs : Array Value} (hb : Blk W k t cs) : Blk W' k t cs := h.2 k hk _ _ _ hb
set_option maxRecDepth 100000 in
set_option maxHeartbeats 2000000 in
theorem values1_in (n : Nat) (hn : 1 ≤ n) (l Ba Bb n0 : Nat) (A : Option Addr) (c : Nat) (L : List Gl.Head) (nm : List UInt8) (hnm : nm.length ≤ 281474976710656) (hL : ∀ h ∈ L, HeadFit h) (hLl : L.length ≤ 281474976710656) (J Jx : List Val → World → Prop) (W : World)
    (hY : ∀ pre x W1, J pre W1 → pre.length < (Gl.values L nm).length → YieldAt Fence.wide (n - 1) Tryz.prog l (encVal x) W1 fun e W' =>
      (e = .returned (.bool true) ∧ J (pre ++ [x]) W' ∧ VK n0 Ba Bb W1 W') ∨ (e = .returned (.bool false) ∧ Jx (pre ++ [x]) W'))
    (hJ : AbidesFrom W.heap.size J) (hn0 : n0 ≤ W.heap.size) (hBa : Blk W Ba 29 #[.slice A L.length c]) (hBb : Blk W Bb 9 #[(Value.string ⟨(nm).toArray⟩)])
    (hc : ∀ k, (h : k < L.length) → ∃ sb so, A = some ⟨sb, so, none⟩ ∧ sb < n0 ∧ ∀ i, i < 2 → W.cell? ⟨sb, so + k * 2 + i, none⟩ = (hcells L[k])[i]?) (h0 : J [] W) :
    CallsIn Fence.wide n Tryz.prog 98 #[.func (.yield l) #[] #[], .pointer (some ⟨Ba, 0, none⟩), .pointer (some ⟨Bb, 0, none⟩)] W fun e W' => (∃ v, e = .returned v) ∧
      ((∃ ys : List Val, ys.map (fun x => x.1) = Gl.values L nm ∧ J ys W') ∨ (∃ pre : List Val, pre.map (fun x => x.1) <+: Gl.values L nm ∧ Jx pre W')) := by
  replace hc := Lib.hid hc
  replace hL := Lib.hid hL
  have ca := hBa.cell
  have cb := hBb.cell
  refine callsIn_of_wp Tryz.func98 rfl trivial ?_ rfl
  simp only [Tryz.ntmps98, List.size_toArray, List.length_cons, List.length_nil, Nat.reduceAdd, Nat.reduceSub, Array.replicate_succ, Array.replicate_zero, List.push_toArray, List.append_toArray, List.nil_append, List.cons_append]
  gi_wp2_with fail
  gi_loopw [5, 8] (fun _ i wr => ∃ (k : Nat) (pre : List Val), k ≤ L.length ∧ i = .int .i64 k ∧ pre.map (fun x => x.1) = Gl.values (L.take k) nm ∧ J pre wr ∧ VK n0 Ba Bb W wr)
    (fun _ i _ => L.length - (intOf i).toNat)
  case atStart => exact ⟨0, [], Nat.zero_le _, rfl, rfl, h0, VK.refl _ _ _ _⟩
  case round =>
    obtain ⟨k, pre, hk, rfl, hpre, hJs, hvk⟩ := hrel
    have hBa2 := hvk.blk (Or.inl rfl) hBa
    have hBb2 := hvk.blk (Or.inr rfl) hBb
    have hwr0 := hvk.1.size
    by_cases hlt : k < L.length
    · obtain ⟨sb, so, rfl, hsB, hcell⟩ := hc.out k hlt
      have q0 := (hvk.1.cell (p := ⟨sb, so + k * 2 + 0, none⟩) hsB).trans (hcell 0 (by decide))
      have q1 := (hvk.1.cell (p := ⟨sb, so + k * 2 + 1, none⟩) hsB).trans (hcell 1 (by decide))
      clear hcell
      have hfit := hL.out _ (List.getElem_mem hlt)
      have hvs : Gl.values L nm = Gl.values (L.take k) nm ++ Gl.values (L.drop k) nm := by rw [← values_app, List.take_append_drop]
      have htk : Gl.values (L.take (k + 1)) nm = Gl.values (L.take k) nm ++ Gl.values [L[k]] nm := by rw [← values_app, List.take_succ_eq_append_getElem hlt]
      rw [drop_consX hlt, values_cons] at hvs
      rw [values_cons] at htk
      generalize L[k] = x at *
      obtain ⟨xn, xv⟩ := x
      simp only [hcells, Nat.add_zero, List.getElem?_toArray, List.getElem?_cons_zero, List.getElem?_cons_succ] at q0 q1
      simp only at hvs htk
      have hfo := fun W => octet_fold xn nm W (Nat.le_trans hfit.name (by decide)) hnm
      have htr := fun W => octet_trim xv W (Nat.le_trans hfit.value (by decide))
      have htl : (Gl.trimH xv).length ≤ 281474976710656 := Nat.le_trans (trimH_len xv) (Nat.le_trans hfit.value (by decide))
      clear hfit
      cases hq : Gl.foldS xn nm
      · rw [hq] at hfo htk
        replace hfo := Lib.hid hfo
        replace htk := Lib.hid htk
        clear hvs htr htl
        replace hJ := Lib.hid hJ
        have ca2 := hBa2.cell
        have cb2 := hBb2.cell
        have cbl := hBb2.lt
        gi_wp2_with (refine ⟨trivial, ?_⟩; gi_at_call 99; refine (callsIn_wide.2 (hfo.out _)).mono ?_; rintro e w1 ⟨rfl, hb⟩; have hz := hb.size; simp at hz)
        refine ⟨trivial, ?_⟩
        gi_wp2
        refine ⟨(fun f h => by cases h), ?_⟩
        gi_wp2
        have hbw : Below wr.heap.size wr w1 := ((Below.refl _ _).alloc (Nat.le_refl _) _).trans (hb.mono (by simp))
        go_roundw
        case rel => exact ⟨k + 1, pre, by omega, by go_num, by rw [hpre, htk.out]; simp [Gl.values], hJ.out pre wr w1 none hJs ⟨hbw.os, hbw.tape, hbw.output, hbw.size, fun k hk _ => hbw.block k hk⟩ (fun r e => by cases e), hvk.trans (VK.of hbw (by omega))⟩
        case measure => simp [intOf]; omega
      · rw [hq] at hfo htk hvs
        replace hfo := Lib.hid hfo
        replace htr := Lib.hid htr
        replace htk := Lib.hid htk
        replace hvs := Lib.hid hvs
        replace hJ := Lib.hid hJ
        have ca2 := hBa2.cell
        have cb2 := hBb2.cell
        have cbl := hBb2.lt
        gi_wp2_with (first | (refine ⟨trivial, ?_⟩; gi_at_call 99; refine (callsIn_wide.2 (hfo.out _)).mono ?_; rintro e w1 ⟨rfl, hb⟩; have hz := hb.size; simp at hz; have hx1 : w1.cell? ⟨wr.heap.size, 1, none⟩ = some ((Value.string ⟨(xv).toArray⟩)) := (hb.cell (p := ⟨wr.heap.size, 1, none⟩) (by simp)).trans (Blk.cell (Blk.new wr 39 #[(Value.string ⟨(xn).toArray⟩), (Value.string ⟨(xv).toArray⟩)]) 1)) | (refine ⟨trivial, ?_⟩; gi_at_call 100; refine (callsIn_wide.2 (htr.out _)).mono ?_; rintro e w2 ⟨rfl, hb2⟩; have hz2 := hb2.size))
        have hbw : Below wr.heap.size wr w2 := ((Below.refl _ _).alloc (Nat.le_refl _) _).trans ((hb.mono (by simp)).trans (hb2.mono (by omega)))
        have hJ2 : J pre w2 := hJ.out pre wr w2 none hJs ⟨hbw.os, hbw.tape, hbw.output, hbw.size, fun k hk _ => hbw.block k hk⟩ (fun r e => by cases e)
        have hpl : pre.length = (Gl.values (L.take k) nm).length := by rw [← hpre, List.length_map]
        obtain ⟨fn, tmps, assign, body, hy, hR⟩ := hY pre ⟨Gl.trimH xv, htl⟩ w2 hJ2 (by rw [hpl, hvs.out]; simp)
        simp only [encVal] at hy
        rw [hy]
        gi_wp2
        refine hR.mono ?_
        rintro e W3 (⟨rfl, hJ3, hk3⟩ | ⟨rfl, hJx3⟩)
        · gi_wp2
          go_roundw
          case rel => exact ⟨k + 1, pre ++ [⟨Gl.trimH xv, htl⟩], by omega, by go_num, by rw [List.map_append, hpre, htk.out]; simp [Gl.values], hJ3, hvk.trans ((VK.of hbw (by omega)).trans hk3)⟩
          case measure => simp [intOf]; omega
        · gi_wp2
          refine bodyPost_ret (results_none rfl _ _ _) rfl ?_
          refine ⟨⟨_, rfl⟩, .inr ⟨pre ++ [⟨Gl.trimH xv, htl⟩], ?_, hJx3⟩⟩
          rw [List.map_append, hpre, hvs.out]
          exact ⟨Gl.values (L.drop (k + 1)) nm, by simp⟩
    · obtain rfl : k = L.length := by omega
      rw [List.take_length] at hpre
      gi_wp2
      go_end0
      exact ⟨⟨_, rfl⟩, .inl ⟨pre, hpre, hJs⟩⟩
theorem values_stops (n : Nat) (hn : 1 ≤ n) (Ba Bb n0 : Nat) (A : Option Addr) (c : Nat) (L : List Gl.Head) (nm : List UInt8) (hnm : nm.length ≤ 281474976710656) (hL : ∀ h ∈ L, HeadFit h) (hLl : L.length ≤ 281474976710656) (w : World) (hn0 : n0 ≤ w.heap.size)
    (hBa : Blk w Ba 29 #[.slice A L.length c]) (hBb : Blk w Bb 9 #[(Value.string ⟨(nm).toArray⟩)])
    (hc : ∀ k, (h : k < L.length) → ∃ sb so, A = some ⟨sb, so, none⟩ ∧ sb < n0 ∧ ∀ i, i < 2 → w.cell? ⟨sb, so + k * 2 + i, none⟩ = (hcells L[k])[i]?) :
    SeqStopsK Fence.wide n Tryz.prog 98 #[.pointer (some ⟨Ba, 0, none⟩), .pointer (some ⟨Bb, 0, none⟩)] encVal (VK n0 Ba Bb) (fun ys => ys.map (fun x => x.1) = Gl.values L nm) (fun pre => pre.map (fun x => x.1) <+: Gl.values L nm) (Gl.values L nm).length w :=
  fun l J Jx W hW hJ _ hY h0 => values1_in n hn l Ba Bb n0 A c L nm hnm hL hLl J Jx W hY hJ (by have := hW.size; omega) (hBa.below hW hBa.lt) (hBb.below hW hBb.lt)
    (fun k h => by
      obtain ⟨sb, so, e, hs, hx⟩ := hc k h
      exact ⟨sb, so, e, hs, fun i hi => (hW.cell (p := ⟨sb, so + k * 2 + i, none⟩) (by show sb < _; omega)).trans (hx i hi)⟩) h0
end Go.Proofs.YtbafofldgkigmaaGreatDoor
