/- host.labels: a range over a function: the labels of a name, one by one. octet.Number: the number that digits are. host.Parse: the host that a text is. The library functions that the program calls, in the words of this seat's texts. A host's text, of the program and of the reference. -/
import Derived.RangeFuncNested
import Derived.RangeFuncBound
import Derived.RangeFuncCalls
import Derived.RangeFuncLeaves
import Derived.Shelf.Abstract
import Derived.Shelf.RegionOpen
import Derived.OwnWalkIn
import Derived.TacticsInMore
import Derived.LoopNIn
import Derived.LoopIn
import Derived.Test.YtbafofldgkigmaaGreatDoorOne
import Derived.Test.YtbafofldgkigmaaGreatDoorShelf
import Derived.ChangeAgain
import Derived.Lib.ItoaLen
namespace Go.Proofs.YtbafofldgkigmaaGreatDoor
open Go.RowKit Go.Shelf
attribute [local go_sem] Oper.semAt_some

theorem Blk.own {w w' : World} {g : Nat} {t : TypeId} {cs : Array Value} {row : Option Nat} (h : Blk w g t cs) (hg : w.grownBy w' row) (hr : ∀ r, row = some r → ∃ o : Obj, w.heap[r]? = some o ∧ o.isCells = false) : Blk w' g t cs := by
  refine (hg.block g h.lt (fun e => ?_)).trans h
  obtain ⟨o, ho, hc⟩ := hr g e.symm
  unfold Blk at h
  rw [h] at ho
  cases ho
  cases hc

/-- A label, and its place. -/
abbrev Lab := { x : Nat × List UInt8 // x.2.length ≤ 281474976710656 }
def encLab (x : Lab) : Array Value := #[.int .i64 (x.1.1 : Int), .string ⟨x.1.2.toArray⟩]

/-- What a round keeps: whatever cells lie from block m on. -/
def Upper (m : Nat) (W W' : World) : Prop := W.heap.size ≤ W'.heap.size ∧ ∀ k c t f, m ≤ k → W.heap[k]? = some (.cells c t f) → W'.heap[k]? = some (.cells c t f)
theorem Upper.trans {m : Nat} {A B C : World} (h : Upper m A B) (k : Upper m B C) : Upper m A C := ⟨Nat.le_trans h.1 k.1, fun i c t f hi hc => k.2 i c t f hi (h.2 i c t f hi hc)⟩
theorem Upper.refl (m : Nat) (W : World) : Upper m W W := ⟨Nat.le_refl _, fun _ _ _ _ _ h => h⟩
theorem Upper.putObj {m : Nat} (W : World) (l : Nat) (o o' : Obj) (h : W.heap[l]? = some o) (ho : o.isCells = false) : Upper m W (W.putObj l o') := by
  refine ⟨by simp, fun k c t f _ hc => ?_⟩
  by_cases e : k = l
  · subst e
    rw [h] at hc
    cases hc
    cases ho
  · rw [World.putObj_heap_other e]
    exact hc
theorem Upper.setCell {m : Nat} {A W : World} (h : Upper m A W) {p : Addr} (hp : p.block < m) (v : Value) : Upper m A (W.setCell p v) :=
  ⟨by have := h.1; simpa using this, fun k c t f hk hc => by
    rw [Below.heap_setCell _ _ _ _ (by omega)]
    exact h.2 k c t f hk hc⟩
theorem Upper.alloc {m : Nat} {A W : World} (h : Upper m A W) (o : Obj) : Upper m A (W.alloc o) :=
  ⟨by have := h.1; simp; omega, fun k c t f hk hc => by
    have := h.2 k c t f hk hc
    rw [Below.heap_alloc _ _ _ (Array.getElem?_eq_some_iff.1 this).1]
    exact this⟩
theorem Upper.strs {m b : Nat} {W W' : World} {L : List (List UInt8)} (h : Upper m W W') (hb : m ≤ b) (hc : ∀ j, (h : j < L.length) → W.cell? ⟨b, j, none⟩ = some (.string ⟨(L[j]).toArray⟩)) :
    ∀ j, (h : j < L.length) → W'.cell? ⟨b, j, none⟩ = some (.string ⟨(L[j]).toArray⟩) := by
  intro j hj
  have := hc j hj
  unfold World.cell? at this ⊢
  split at this
  · rename_i e
    have e' := h.2 b _ _ _ hb e
    rw [e']
    exact this
  · cases this

theorem host_labels (s : List UInt8) (w : World) :
    Calls Tryz.prog 110 #[(Value.string ⟨(s).toArray⟩)] w (fun e w' => e = .returned (.func (.func 133) #[] #[.pointer (some ⟨w.heap.size, 0, none⟩)]) ∧ w' = w.alloc (.cells #[(Value.string ⟨(s).toArray⟩)] 9)) := by
  go_enter Tryz.func110, Tryz.ntmps110
  go_wp2
  go_ret
  exact ⟨rfl, rfl⟩

set_option maxRecDepth 100000 in
set_option maxHeartbeats 2000000 in
theorem labels1_in (n : Nat) (hn : 1 ≤ n) (l Bs m : Nat) (s : List UInt8) (hs : s.length ≤ 281474976710656) (hs2 : s.length ≤ 1099511627774) (J Jx : List Lab → World → Prop) (W : World)
    (hY : ∀ pre x W, J pre W → pre.length < (Gl.split 46 s).length → YieldAt Fence.wide (n - 1) Tryz.prog l (encLab x) W fun e W' =>
      (e = .returned (.bool true) ∧ J (pre ++ [x]) W' ∧ Upper m W W') ∨ (e = .returned (.bool false) ∧ Jx (pre ++ [x]) W'))
    (hJ : AbidesFrom W.heap.size J) (hm : m ≤ W.heap.size) (hBs : W.cell? ⟨Bs, 0, none⟩ = some (.string ⟨s.toArray⟩)) (h0 : J [] W) :
    CallsIn Fence.wide n Tryz.prog 133 #[.func (.yield l) #[] #[], .pointer (some ⟨Bs, 0, none⟩)] W fun e W' => (∃ v, e = .returned v) ∧
      ((∃ ys : List Lab, ys.map (fun x => x.1.2) = Gl.split 46 s ∧ J ys W') ∨ (∃ pre : List Lab, pre.map (fun x => x.1.2) <+: Gl.split 46 s ∧ Jx pre W')) := by
  have hpos := split_pos 46 s
  have hlen := split_len 46 s
  have hmem := split_mem 46 s
  generalize hL : Gl.split 46 s = L at *
  replace hL := Lib.hid hL
  replace hmem := Lib.hid hmem
  refine callsIn_of_wp Tryz.func133 rfl trivial ?_ rfl
  simp only [Tryz.ntmps133, List.size_toArray, List.length_cons, List.length_nil, Nat.reduceAdd, Nat.reduceSub, Array.replicate_succ, Array.replicate_zero, List.push_toArray, List.append_toArray, List.nil_append, List.cons_append]
  gi_wp2_with (refine ⟨trivial, ?_⟩; gi_at_call 134; refine (callsIn_wide.2 (hL.out ▸ octet_split s 46 _ hs2)).mono ?_; rintro e w1 ⟨v, rfl, hst, hb⟩; obtain ⟨lb, lc, hlc, hlm, hlB, hlv, _, hlcell⟩ := hst.at_; obtain rfl := hlv hpos; obtain ⟨hlb, hlB⟩ := hlB hpos)
  replace hlcell := Lib.hid hlcell
  clear hst hlv
  gi_loopw [3, 4, 8] (fun _ _ i wr => ∃ (k : Nat) (pre : List Lab), k ≤ L.length ∧ i = .int .i64 k ∧ pre.map (fun x => x.1.2) = L.take k ∧ J pre wr ∧ Upper m w1 wr)
    (fun _ _ i _ => L.length - (intOf i).toNat)
  case atStart => exact ⟨0, [], Nat.zero_le _, rfl, rfl, hJ _ _ _ none h0 ⟨hb.os, hb.tape, hb.output, hb.size, fun k hk _ => hb.block k hk⟩ (fun r e => by cases e), Upper.refl _ _⟩
  case round =>
    obtain ⟨k, pre, hk, rfl, hpre, hJs, hup⟩ := hrel
    have hpl : pre.length = min k L.length := by have := congrArg List.length hpre; simpa using this
    by_cases hlt : k < L.length
    · have hcx := hup.strs (by omega) hlcell.out k hlt
      have hml : (L[k]).length ≤ 281474976710656 := by have := hmem.out L[k] (List.getElem_mem hlt); omega
      obtain ⟨fn, tmps, assign, body, hy, hR⟩ := hY pre ⟨(k, L[k]), hml⟩ wr hJs (by omega)
      simp only [encLab] at hy
      clear hJ
      replace hpl := Lib.hid hpl
      gi_wp2
      refine hR.mono ?_
      rintro e W3 (⟨rfl, hJ3, hk3⟩ | ⟨rfl, hJx3⟩)
      · gi_wp2
        go_roundw
        case rel => exact ⟨k + 1, pre ++ [⟨(k, L[k]), hml⟩], by omega, by go_num, by rw [List.map_append, hpre, List.take_succ_eq_append_getElem hlt]; rfl, hJ3, hup.trans hk3⟩
        case measure => simp [intOf]; omega
      · gi_wp2
        refine bodyPost_ret (results_none rfl _ _ _) rfl ?_
        refine ⟨⟨_, rfl⟩, .inr ⟨pre ++ [⟨(k, L[k]), hml⟩], ?_, hJx3⟩⟩
        rw [List.map_append, hpre]
        exact ⟨L.drop (k + 1), by rw [show L.take k ++ List.map (fun x : Lab => x.1.2) [⟨(k, L[k]), hml⟩] = L.take (k + 1) from by rw [List.take_succ_eq_append_getElem hlt]; rfl]; exact List.take_append_drop _ _⟩
    · obtain rfl : k = L.length := by omega
      rw [List.take_length] at hpre
      gi_wp2
      go_end0
      exact ⟨⟨_, rfl⟩, .inl ⟨pre, hpre, hJs⟩⟩

theorem labels_stops (n : Nat) (hn : 1 ≤ n) (Bs m : Nat) (s : List UInt8) (hs : s.length ≤ 281474976710656) (hs2 : s.length ≤ 1099511627774) (w : World) (hB : Bs < w.heap.size) (hm : m ≤ w.heap.size) (hBs : w.cell? ⟨Bs, 0, none⟩ = some (.string ⟨s.toArray⟩)) :
    SeqStopsK Fence.wide n Tryz.prog 133 #[.pointer (some ⟨Bs, 0, none⟩)] encLab (Upper m) (fun ys => ys.map (fun x => x.1.2) = Gl.split 46 s) (fun pre => pre.map (fun x => x.1.2) <+: Gl.split 46 s) (Gl.split 46 s).length w :=
  fun l J Jx W hW hJ _ hY h0 => labels1_in n hn l Bs m s hs hs2 J Jx W hY hJ (by have := hW.size; omega) ((hW.cell (p := ⟨Bs, 0, none⟩) hB).trans hBs) h0

end Go.Proofs.YtbafofldgkigmaaGreatDoor
namespace Go.Proofs.YtbafofldgkigmaaGreatDoor
open Go.RowKit

set_option maxHeartbeats 1000000 in
theorem octet_number (s : List UInt8) (most : Int) (w : World) (hs : s.length ≤ 281474976710656) (h0 : 0 ≤ most) (h1 : most ≤ 4294967296) :
    Calls Tryz.prog 85 #[(Value.string ⟨(s).toArray⟩), .int .i64 most] w
      (Same w (.tuple #[.int .i64 ((Gl.number s most).getD 0), .bool (Gl.number s most).isSome])) := by
  generalize hR : Gl.number s most = R
  replace hR := Lib.hid hR
  rcases Nat.eq_zero_or_pos s.length with hz | hz
  · obtain rfl := List.length_eq_zero_iff.1 hz
    go_enter Tryz.func85, Tryz.ntmps85
    go_wp2
    go_ret2
    exact ret_num (b := false) hR.out.symm (fun _ => rfl)
  · have he : s.isEmpty = false := by cases s <;> simp_all
    have hm : decide (most < 0) = false := by simp; omega
    replace hR := Lib.hid (hR.out.symm.trans (number_eq most hz))
    have hz1 : s = [48] ↔ s[0] = 48 ∧ s.length = 1 := by
      constructor
      · rintro rfl; exact ⟨rfl, rfl⟩
      · intro ⟨h1, h2⟩
        match s, h2 with
        | [a], _ => simpa using h1
    by_cases hc : s[0] = 48 ∧ 1 < s.length
    · obtain ⟨hc0, hc1⟩ := hc
      replace hR : Hid (R = none) := Lib.hid (by rw [hR.out, if_pos ⟨hc0, hc1⟩])
      have hb : ((s[0].toNat : Int) == 48) = true := by rw [hc0]; rfl
      have hb1 : (s == [48]) = false := by rw [beq_eq_false_iff_ne]; intro h; have := hz1.1 h; omega
      clear hc0 hz1
      go_enter Tryz.func85, Tryz.ntmps85
      go_wp2
      go_ret2
      exact ret_num (b := false) hR.out (fun _ => rfl)
    · replace hR : Hid (R = Gl.numGo most 0 s) := Lib.hid (by rw [hR.out, if_neg hc])
      have hcc : (s == [48]) = true ∨ (s == [48]) = false ∧ ((s[0].toNat : Int) == 48) = false := by
        by_cases hx : s = [48]
        · left; simpa using hx
        · right
          refine ⟨by simpa using hx, ?_⟩
          rw [beq_eq_false_iff_ne]; intro h
          have h48 : s[0] = 48 := by apply UInt8.toNat_inj.1; exact Int.ofNat_inj.1 h
          refine hx (hz1.2 ⟨h48, ?_⟩)
          have : ¬ 1 < s.length := fun h => hc ⟨h48, h⟩
          omega
      clear hc hz1
      rcases hcc with hb | ⟨hb, hb1⟩
      all_goals
        go_enter Tryz.func85, Tryz.ntmps85
        go_wp2
        go_loop [6, 26] (fun n i => ∃ (k : Nat) (m : Int), k ≤ s.length ∧ i = .int .i64 k ∧ n = .int .i64 m ∧ 0 ≤ m ∧ m ≤ most ∧ Hid (R = Gl.numGo most m (s.drop k))) (fun _ i => s.length - (intOf i).toNat)
        case atStart => exact ⟨0, 0, Nat.zero_le _, rfl, rfl, Int.le_refl _, h0, hR⟩
        case round =>
          obtain ⟨k, m, hk, rfl, rfl, hm0, hm1, hr⟩ := hrel
          by_cases hlt : k < s.length
          · rw [drop_cons hlt] at hr
            have hc256 := (s[k]).toNat_lt
            by_cases hd : (s[k].toNat : Int) < 48 ∨ 57 < (s[k].toNat : Int)
            · replace hr : Hid (R = none) := Lib.hid (by rw [hr.out, Gl.numGo, if_pos hd])
              rcases hd with hd | hd
              all_goals
                go_wp2
                go_ret2
                exact ret_num (b := false) hr.out (fun _ => rfl)
            · have hd1 : 48 ≤ (s[k].toNat : Int) := by omega
              have hd2 : (s[k].toNat : Int) ≤ 57 := by omega
              replace hr := Lib.hid (hr.out.trans (by rw [Gl.numGo, if_neg hd]))
              clear hd
              by_cases hq : most < (s[k].toNat : Int) - 48
              · replace hr : Hid (R = none) := Lib.hid (by rw [hr.out, if_pos (Or.inl hq)])
                go_wp2
                go_ret2
                exact ret_num (b := false) hr.out (fun _ => rfl)
              · have hq1 : (s[k].toNat : Int) - 48 ≤ most := by omega
                have hq3 : Hid ((most - ((s[k].toNat : Int) - 48)).tdiv 10 = (most - ((s[k].toNat : Int) - 48)) / 10) := Lib.hid (Int.tdiv_eq_ediv_of_nonneg (by omega))
                by_cases hq2 : (most - ((s[k].toNat : Int) - 48)) / 10 < m
                · replace hr : Hid (R = none) := Lib.hid (by rw [hr.out, if_pos (Or.inr hq2)])
                  clear hq
                  go_wp2
                  all_goals first
                    | (go_ret2; exact ret_num (b := false) hr.out (fun _ => rfl))
                    | (exfalso; have := hq3.out; omega)
                · replace hr := Lib.hid (hr.out.trans (if_neg (by omega)))
                  have hq4 : m ≤ (most - ((s[k].toNat : Int) - 48)) / 10 := by omega
                  clear hq hq2
                  go_wp2
                  all_goals first
                    | (go_round
                       case rel => exact ⟨k + 1, 10 * m + ((s[k].toNat : Int) - 48), by omega, by go_num, rfl, by omega, by omega, hr⟩
                       case measure => simp [intOf]; omega)
                    | (exfalso; have := hq3.out; omega)
          · replace hr : Hid (R = some m) := Lib.hid (by rw [hr.out, List.drop_eq_nil_of_le (by omega)]; rfl)
            go_wp2
            go_ret2
            exact ret_num (b := true) hr.out (fun h => by cases h)

theorem octet_number_none (s : List UInt8) (most : Int) (w : World) (hs : s.length ≤ 281474976710656) (h0 : 0 ≤ most) (h1 : most ≤ 4294967296) (h : Gl.number s most = none) :
    Calls Tryz.prog 85 #[.string ⟨s.toArray⟩, .int .i64 most] w (Same w (.tuple #[.int .i64 0, .bool false])) := by
  have := octet_number s most w hs h0 h1; rw [h] at this; exact this
theorem octet_number_some (s : List UInt8) (most n : Int) (w : World) (hs : s.length ≤ 281474976710656) (h0 : 0 ≤ most) (h1 : most ≤ 4294967296) (h : Gl.number s most = some n) :
    Calls Tryz.prog 85 #[.string ⟨s.toArray⟩, .int .i64 most] w (Same w (.tuple #[.int .i64 n, .bool true])) := by
  have := octet_number s most w hs h0 h1; rw [h] at this; exact this
end Go.Proofs.YtbafofldgkigmaaGreatDoor
namespace Go.Proofs.YtbafofldgkigmaaGreatDoor
open Go.RowKit Go.Shelf
attribute [local go_sem] Oper.semAt_some

theorem ko {W A : World} (h : KeepsOthers W A) (p : Addr) (v : Value) : KeepsOthers W (A.setCell p v) := h.trans (KeepsOthers.setCell A p v)
theorem Blk.put {w : World} {g : Nat} {t : TypeId} {cs : Array Value} (h : Blk w g t cs) {D : Nat} {o : Obj} (hD : w.heap[D]? = some o) (ho : o.isCells = false) (o' : Obj) : Blk (w.putObj D o') g t cs :=
  h.own (grownBy_putObj' w D o') (fun r e => by cases e; exact ⟨o, hD, ho⟩)

theorem belowD {w W : World} {D : Nat} {o o' : Obj} (hb : Below w.heap.size w W) (hD : w.heap.size ≤ D) (_ : W.heap[D]? = some o) : Below w.heap.size w (W.putObj D o') :=
  hb.grown (grownBy_putObj' W D o') hb.size (fun k e => by cases e; exact hD)

/-- Between two labels of the first loop. -/
def HI (w w1 : World) (pre : List Lab) (W : World) : Prop :=
  (Blk W w.heap.size 26 #[Value.string ⟨#[]⟩, Value.bool false, Value.int .u32 0] ∧ Blk W (w.heap.size + 1) 45 #[Value.int .i64 0] ∧
  Blk W w1.heap.size 9 #[(Value.string ⟨(((pre.map (fun x : Lab => x.1.2)).getLast?).getD []).toArray⟩)] ∧ Blk W (w1.heap.size + 1) 3 #[Value.int .i64 (pre.length : Int)] ∧ (pre.map (fun x : Lab => x.1.2)).all Gl.isLabel = true) ∧ Below w.heap.size w W
/-- A label that may not be. -/
def HIx (w : World) (c : Code) (pre : List Lab) (W : World) : Prop :=
  (c = .ret ∧ Blk W w.heap.size 26 #[Value.string ⟨#[]⟩, Value.bool false, Value.int .u32 0] ∧ Blk W (w.heap.size + 1) 45 #[Value.int .i64 20] ∧ (pre.map (fun x : Lab => x.1.2)).all Gl.isLabel = false) ∧ Below w.heap.size w W
theorem HI.own (w w1 : World) (B : Nat) (hB : w.heap.size ≤ B) : OwnFrom B (HI w w1) := by
  refine OwnFrom.and (Own.from (fun s A B row hs hg hr => ?_) _) (ownFrom_below (Nat.le_refl _) hB)
  exact ⟨hs.1.own hg hr, hs.2.1.own hg hr, hs.2.2.1.own hg hr, hs.2.2.2.1.own hg hr, hs.2.2.2.2⟩
theorem HIx.own (w : World) (c : Code) (B : Nat) (hB : w.heap.size ≤ B) : OwnFrom B (HIx w c) := by
  refine OwnFrom.and (Own.from (fun s A B row hs hg hr => ?_) _) (ownFrom_below (Nat.le_refl _) hB)
  exact ⟨hs.1, hs.2.1.own hg hr, hs.2.2.1.own hg hr, hs.2.2.2⟩

theorem host_fits_small_at (s : List UInt8) (w : World) (hs : s.length ≤ 281474976710656) {b : Bool} (h : s.all Gl.isSmall = b) :
    Calls Tryz.prog 111 #[(Value.string ⟨(s).toArray⟩), .func (.func 112) #[] #[]] w (Same w (.bool b)) := h ▸ host_fits_small s w hs
theorem host_fits_digit_at (s : List UInt8) (w : World) (hs : s.length ≤ 281474976710656) {b : Bool} (h : s.all Gl.isDigit = b) :
    Calls Tryz.prog 111 #[(Value.string ⟨(s).toArray⟩), .func (.func 113) #[] #[]] w (Same w (.bool b)) := h ▸ host_fits_digit s w hs

theorem hostOf_bad (s : List UInt8) (h : (Gl.split 46 s).all Gl.isLabel = false) : Gl.hostOf s = ({}, 20) := by
  unfold Gl.hostOf
  split
  · rfl
  · unfold Gl.host1
    rw [h]
    rfl

/-- The result is stored. -/
theorem hstore {w W : World} {x y z u : Value} (n v ad e : Value) (b1 : Blk W w.heap.size 26 #[x, y, z]) (b2 : Blk W (w.heap.size + 1) 45 #[u]) (hb : Below w.heap.size w W) :
    Blk ((((W.setCell ⟨w.heap.size, 0, none⟩ n).setCell ⟨w.heap.size, 1, none⟩ v).setCell ⟨w.heap.size, 2, none⟩ ad).setCell ⟨w.heap.size + 1, 0, none⟩ e) w.heap.size 26 #[n, v, ad] ∧
    Blk ((((W.setCell ⟨w.heap.size, 0, none⟩ n).setCell ⟨w.heap.size, 1, none⟩ v).setCell ⟨w.heap.size, 2, none⟩ ad).setCell ⟨w.heap.size + 1, 0, none⟩ e) (w.heap.size + 1) 45 #[e] ∧
    Below w.heap.size w ((((W.setCell ⟨w.heap.size, 0, none⟩ n).setCell ⟨w.heap.size, 1, none⟩ v).setCell ⟨w.heap.size, 2, none⟩ ad).setCell ⟨w.heap.size + 1, 0, none⟩ e) ∧
    KeepsOthers W ((((W.setCell ⟨w.heap.size, 0, none⟩ n).setCell ⟨w.heap.size, 1, none⟩ v).setCell ⟨w.heap.size, 2, none⟩ ad).setCell ⟨w.heap.size + 1, 0, none⟩ e) := by
  have e1 : Blk (W.setCell ⟨w.heap.size, 0, none⟩ n) w.heap.size 26 _ := b1.set_ 0 _
  have e2 := ((e1.set_ 1 v).set_ 2 ad).far (p := ⟨w.heap.size + 1, 0, none⟩) (by simp) e
  have e3 := (((b2.far (p := ⟨w.heap.size, 0, none⟩) (by simp) n).far (p := ⟨w.heap.size, 1, none⟩) (by simp) v).far (p := ⟨w.heap.size, 2, none⟩) (by simp) ad).set_ 0 e
  refine ⟨by simpa using e2, by simpa using e3, (((hb.setCell (by simp) _).setCell (by simp) _).setCell (by simp) _).setCell (by simp) _, ko (ko (ko (ko (KeepsOthers.refl W) _ _) _ _) _ _) _ _⟩

theorem addrGo_snoc (L : List (List UInt8)) (x : List UInt8) (a : Nat) : Gl.addrGo a (L ++ [x]) = (Gl.addrGo a L).bind (fun b => (Gl.number x 255).map (fun n => (b * 256 + n.toNat) % 4294967296)) := by
  induction L generalizing a with
  | nil =>
    simp only [List.nil_append, Gl.addrGo, Option.bind_some]
    cases Gl.number x 255 <;> rfl
  | cons y L ih =>
    simp only [List.cons_append, Gl.addrGo]
    cases Gl.number y 255 with
    | none => rfl
    | some n => exact ih _
theorem addrGo_none (L M : List (List UInt8)) (a : Nat) (h : Gl.addrGo a L = none) : Gl.addrGo a (L ++ M) = none := by
  induction L generalizing a with
  | nil => simp [Gl.addrGo] at h
  | cons y L ih =>
    simp only [List.cons_append, Gl.addrGo] at h ⊢
    cases hn : Gl.number y 255 with
    | none => rfl
    | some n => rw [hn] at h; exact ih _ h

/-- Between two labels of the second loop: the address so far lies in block g; D is the first loop's mark. -/
def HJ (w : World) (g D : Nat) (pre : List Lab) (W : World) : Prop :=
  ((Blk W w.heap.size 26 #[Value.string ⟨#[]⟩, Value.bool false, Value.int .u32 0] ∧ Blk W (w.heap.size + 1) 45 #[Value.int .i64 0] ∧
  (∃ a : Nat, a < 256 ^ pre.length ∧ Gl.addrGo 0 (pre.map (fun x : Lab => x.1.2)) = some a ∧ Blk W g 26 #[Value.string ⟨#[]⟩, Value.bool true, Value.int .u32 (a : Int)])) ∧ W.heap[D]? = some (.deferred (some []))) ∧ Below w.heap.size w W
def HJx (w : World) (D : Nat) (c : Code) (pre : List Lab) (W : World) : Prop :=
  ((c = .ret ∧ Blk W w.heap.size 26 #[Value.string ⟨#[]⟩, Value.bool false, Value.int .u32 0] ∧ Blk W (w.heap.size + 1) 45 #[Value.int .i64 20] ∧
  Gl.addrGo 0 (pre.map (fun x : Lab => x.1.2)) = none) ∧ W.heap[D]? = some (.deferred (some []))) ∧ Below w.heap.size w W
theorem own_block {β : Type} (B D : Nat) (o : Obj) (hD : D < B) : OwnFrom B (fun (_ : β) W => W.heap[D]? = some o) := by
  intro s W W' row hs hg hr
  refine (hg.block D (Array.getElem?_eq_some_iff.1 hs).1 (fun e => ?_)).trans hs
  have := (hr D e.symm).1
  omega
theorem HJ.own (w : World) (g D B : Nat) (hB : w.heap.size ≤ B) (hD : D < B) : OwnFrom B (HJ w g D) := by
  refine OwnFrom.and (OwnFrom.and (Own.from (fun s A B row hs hg hr => ?_) _) (own_block B D _ hD)) (ownFrom_below (Nat.le_refl _) hB)
  obtain ⟨h1, h2, a, h3, h4, h5⟩ := hs
  exact ⟨h1.own hg hr, h2.own hg hr, a, h3, h4, h5.own hg hr⟩
theorem HJx.own (w : World) (D : Nat) (c : Code) (B : Nat) (hB : w.heap.size ≤ B) (hD : D < B) : OwnFrom B (HJx w D c) := by
  refine OwnFrom.and (OwnFrom.and (Own.from (fun s A B row hs hg hr => ?_) _) (own_block B D _ hD)) (ownFrom_below (Nat.le_refl _) hB)
  exact ⟨hs.1, hs.2.1.own hg hr, hs.2.2.1.own hg hr, hs.2.2.2⟩

/-- The function's end behind the second loop: two marks. -/
theorem host_fin2 {w W : World} {D E : Nat} {n : List UInt8} {v : Bool} {ad e : Int} {R : Value} (hD : w.heap.size ≤ D) (hE : w.heap.size ≤ E) (hne : D ≠ E) (hK : W.heap[D]? = some (.deferred (some []))) (hK2 : W.heap[E]? = some (.deferred (some [])))
    (b1 : Blk W w.heap.size 26 #[(Value.string ⟨(n).toArray⟩), Value.bool v, Value.int .u32 ad]) (b2 : Blk W (w.heap.size + 1) 45 #[Value.int .i64 e]) (hb : Below w.heap.size w W)
    (tmps : Array Value) (h2 : tmps[2]? = some (.pointer (some ⟨w.heap.size, 0, none⟩))) (h3 : tmps[3]? = some (.pointer (some ⟨w.heap.size + 1, 0, none⟩)))
    (hR : R = .tuple #[.agg #[(Value.string ⟨(n).toArray⟩), .bool v, .int .u32 ad], .int .i64 e]) :
    LeavesInM Fence.wide 20 Tryz.prog Tryz.f84 tmps (Ret w R) [{ target := .collected D, args := #[] }, { target := .collected E, args := #[] }] .returning W := by
  refine ⟨by simp, .inl ⟨_, _, rfl, run_takeDeferred hK, ?_⟩⟩
  have hK3 : (W.putObj D (.deferred none)).heap[E]? = some (.deferred (some [])) := (World.putObj_heap_other (Ne.symm hne)).trans hK2
  have a1 := b1.put hK rfl (.deferred none)
  have a2 := b2.put hK rfl (.deferred none)
  have a3 := belowD (o' := .deferred none) hb hD hK
  refine ⟨by simp, .inl ⟨_, _, rfl, run_takeDeferred hK3, ?_⟩⟩
  have c1 := (a1.put hK3 rfl (.deferred none)).cell
  have c2 := (a2.put hK3 rfl (.deferred none)).cell
  refine ⟨.tuple #[.agg #[(Value.string ⟨(n).toArray⟩), .bool v, .int .u32 ad], .int .i64 e], ?_, by rw [hR], belowD a3 hE hK3⟩
  simp only [results, Tryz.results84]
  go_simp

theorem or256 (a m : Nat) (hm : m < 256) (ha : a < 16777216) : bits .or .u32 ((a : Int) * 256) (m : Int) = (a : Int) * 256 + m := by
  have e : (a : Int) * 256 = ((a * 256 : Nat) : Int) := by rw [Int.natCast_mul]; rfl
  rw [e]
  have e1 : (BitVec.ofInt 32 ((a * 256 : Nat) : Int)).toNat = a * 256 := by
    rw [BitVec.ofInt_natCast, BitVec.toNat_ofNat]; exact Nat.mod_eq_of_lt (by omega)
  have e2 : (BitVec.ofInt 32 (m : Int)).toNat = m := by
    rw [BitVec.ofInt_natCast, BitVec.toNat_ofNat]; exact Nat.mod_eq_of_lt (by omega)
  have h : (BitVec.ofInt 32 ((a * 256 : Nat) : Int) ||| BitVec.ofInt 32 (m : Int)).toNat = a * 256 + m := by
    rw [BitVec.toNat_or, e1, e2]
    have := Nat.shiftLeft_add_eq_or_of_lt (i := 8) hm a
    rw [Nat.shiftLeft_eq] at this
    exact this.symm
  show IntKind.u32.wrap ((BitVec.ofInt 32 ((a * 256 : Nat) : Int) ||| BitVec.ofInt 32 (m : Int)).toNat : Int) = _
  rw [h, IntKind.wrap_u32]
  omega

/-- The function's end behind the first loop: the loop's mark is taken up. -/
theorem host_fin1 {w W : World} {D : Nat} {n : List UInt8} {v : Bool} {ad e : Int} {R : Value} (hD : w.heap.size ≤ D) (hK : W.heap[D]? = some (.deferred (some [])))
    (b1 : Blk W w.heap.size 26 #[(Value.string ⟨(n).toArray⟩), Value.bool v, Value.int .u32 ad]) (b2 : Blk W (w.heap.size + 1) 45 #[Value.int .i64 e]) (hb : Below w.heap.size w W)
    (tmps : Array Value) (h2 : tmps[2]? = some (.pointer (some ⟨w.heap.size, 0, none⟩))) (h3 : tmps[3]? = some (.pointer (some ⟨w.heap.size + 1, 0, none⟩)))
    (hR : R = .tuple #[.agg #[(Value.string ⟨(n).toArray⟩), .bool v, .int .u32 ad], .int .i64 e]) :
    LeavesInM Fence.wide 20 Tryz.prog Tryz.f84 tmps (Ret w R) [{ target := .collected D, args := #[] }] .returning W := by
  refine ⟨by simp, .inl ⟨_, _, rfl, run_takeDeferred hK, ?_⟩⟩
  have c1 := (b1.put hK rfl (.deferred none)).cell
  have c2 := (b2.put hK rfl (.deferred none)).cell
  refine ⟨.tuple #[.agg #[(Value.string ⟨(n).toArray⟩), .bool v, .int .u32 ad], .int .i64 e], ?_, by rw [hR], belowD hb hD hK⟩
  simp only [results, Tryz.results84]
  go_simp

set_option maxRecDepth 100000 in
set_option maxHeartbeats 2000000 in
theorem host_parse (s0 : List UInt8) (w : World) (hs0 : s0.length ≤ 1099511627774) :
    Calls Tryz.prog 84 #[(Value.string ⟨(s0).toArray⟩)] w (Ret w (.tuple #[(Value.agg #[(Value.string ⟨(((Gl.hostParse s0).1).name).toArray⟩), (Value.bool ((Gl.hostParse s0).1).v4), (Value.int .u32 (((Gl.hostParse s0).1).addr : Int))]), .int .i64 (Gl.hostParse s0).2])) := by
  have hRR : Gl.hostParse s0 = Gl.hostOf (Gl.lower s0) := rfl
  have hl := lower_length s0
  generalize hR : Gl.hostParse s0 = R
  rw [hR] at hRR
  clear hR
  generalize hS : Gl.lower s0 = s at *
  replace hS := Lib.hid hS
  replace hRR := Lib.hid hRR
  have hs : s.length ≤ 1099511627774 := by omega
  have hs1 : s.length ≤ 281474976710656 := by omega
  clear hl
  refine (callsIn_wide (n := 20)).1 ?_
  refine callsIn_of_wp_marks Tryz.func84 rfl trivial ?_ rfl
  simp only [Tryz.ntmps84, List.size_toArray, List.length_cons, List.length_nil, Nat.reduceAdd, Nat.reduceSub, Array.replicate_succ, Array.replicate_zero, List.push_toArray, List.append_toArray, List.nil_append, List.cons_append]
  gi_wp2_with (first
    | (refine ⟨trivial, ?_⟩; gi_at_call 51; refine (callsIn_wide.2 (hS.out ▸ octet_lower s0 _ (by omega))).mono ?_; rintro e w1 ⟨rfl, hb⟩; obtain ⟨hc, hfz⟩ := bcell hb; have hz := hb.size; simp at hz)
    | (refine ⟨trivial, ?_⟩; gi_at_call 110; refine (callsIn_wide.2 (host_labels s _)).mono ?_; rintro e w2 ⟨rfl, rfl⟩))
  have b1 : Blk w1 w.heap.size 26 #[Value.string ⟨#[]⟩, Value.bool false, Value.int .u32 0] := ((Blk.new w _ _).alloc _).below hb (by simp; omega)
  have b2 : Blk w1 (w.heap.size + 1) 45 #[Value.int .i64 0] := by
    have := Blk.new (w.alloc (.cells #[Value.string ⟨#[]⟩, Value.bool false, Value.int .u32 0] 26)) 45 #[Value.int .i64 0]
    simp only [World.size_alloc] at this
    exact this.below hb (by simp)
  have hB1 : Below w.heap.size w w1 := (((Below.refl _ w).alloc (Nat.le_refl _) _).alloc (by simp) _).trans (hb.mono (by simp; omega))
  have hL := labels_stops 19 (by omega) (w1.heap.size + 1 + 1) (w1.heap.size + 3) s hs1 hs (((w1.alloc (Obj.cells #[Value.string ⟨#[]⟩] 9)).alloc (Obj.cells #[Value.int IntKind.i64 0] 3)).alloc (Obj.cells #[(Value.string ⟨(s).toArray⟩)] 9)) (by simp) (by simp) (by go_simp)
  have h0 : HI w w1 [] (((w1.alloc (Obj.cells #[Value.string ⟨#[]⟩] 9)).alloc (Obj.cells #[Value.int IntKind.i64 0] 3)).alloc (Obj.cells #[(Value.string ⟨(s).toArray⟩)] 9)) := by
    refine ⟨⟨((b1.alloc _).alloc _).alloc _, ((b2.alloc _).alloc _).alloc _, ((Blk.new w1 _ _).alloc _).alloc _, ?_, rfl⟩, ((hB1.alloc (by omega) _).alloc (by simp; omega) _).alloc (by simp; omega) _⟩
    have := Blk.new (w1.alloc (.cells #[Value.string ⟨#[]⟩] 9)) 3 #[Value.int .i64 0]
    simp only [World.size_alloc] at this
    exact this.alloc _
  clear b1 b2 hc hfz
  refine wpIn_rangeFunc_ownF rfl (by omega) (gf := 133) (lb := #[.pointer (some ⟨w1.heap.size + 1 + 1, 0, none⟩)]) rfl trivial (enters_of Tryz.func133 (by kernel_rfl) rfl) hL (fun h k => h.trans k) (fun W l o o' _ h ho _ => Upper.putObj W l o o' h ho) (Below.refl _ _) (fun _ => rfl)
    (HI w w1) (HIx w) (HI.own w w1 _ (by simp; omega)) (fun c => HIx.own w c _ (by simp; omega)) h0
    (fun x => { tmps := #[(Value.string ⟨(s).toArray⟩), undef, Value.pointer (some ⟨w.heap.size, 0, none⟩), Value.pointer (some ⟨w.heap.size + 1, 0, none⟩), Value.pointer (some ⟨w1.heap.size, 0, none⟩), Value.pointer (some ⟨w1.heap.size + 1, 0, none⟩), undef, (Value.string ⟨(x.1.2).toArray⟩), undef, undef, undef, undef, undef, (Value.string ⟨(s0).toArray⟩), (Value.string ⟨(s).toArray⟩), (Value.string ⟨(s).toArray⟩), Value.func (Fn.func 133) #[] #[Value.pointer (some ⟨w1.heap.size + 1 + 1, 0, none⟩)], Value.int .i64 (x.1.1 : Int), (Value.string ⟨(x.1.2).toArray⟩), undef, undef, undef, undef, undef, undef, undef, undef, undef, undef, undef, undef, undef, undef, undef, undef, undef, undef, undef, undef, undef, undef, undef, undef, undef, undef, undef, undef, undef, undef, undef, undef, undef, undef, undef, undef, undef, undef, undef, undef, undef, undef, undef, undef, undef, undef, undef, undef, undef, undef, undef, undef, undef, undef, undef, undef, undef], defers := [] }) ?assign ?body ?done ?stop
  case assign =>
    intro l x W K hK
    simp only [encLab]
    gi_wp2
    exact hK
  case body =>
    rintro l pre ⟨⟨j, x⟩, hx⟩ W ⟨⟨b1, b2, b3, b4, hall⟩, hbW⟩ hpre
    have hpl : pre.length ≤ 1099511627774 := by have := split_len 46 s; omega
    clear h0 hL hb hRR hS hpre
    have c1 := b1.frozen
    have c2 := b2.frozen
    have c3 := b3.frozen
    have c4 := b4.frozen
    have d1 := b1.cell
    have d2 := b2.cell
    have d3 := b3.cell
    have d4 := b4.cell
    have hlw : w.heap.size + 1 < w1.heap.size := by omega
    have hno : ∀ A, KeepsOthers W A → Upper (w1.heap.size + 3) W A → Below w.heap.size w A → Blk A w.heap.size 26 #[Value.string ⟨#[]⟩, Value.bool false, Value.int .u32 0] → Blk A (w.heap.size + 1) 45 #[Value.int .i64 20] → Gl.isLabel x = false →
        KeepsOthers W A ∧ HIx w .ret (pre ++ [⟨(j, x), hx⟩]) A := fun A h1 _ h3 h4 h5 h6 => ⟨h1, ⟨rfl, h4, h5, by rw [List.map_append, List.all_append]; simp [h6]⟩, h3⟩
    by_cases hlab : Gl.isLabel x = true
    · have hl1 : 1 ≤ x.length := by simp [Gl.isLabel] at hlab; omega
      have hl2 : x.length ≤ 63 := by simp [Gl.isLabel] at hlab; omega
      have hsm : Hid (x.all Gl.isSmall = true) := Lib.hid (by simp [Gl.isLabel] at hlab; simpa using hlab.2)
      replace hlab := Lib.hid hlab
      clear hno
      gi_wp2_with (refine ⟨trivial, ?_⟩; gi_at_call 111; refine (CallsIn.inRound l (callsIn_wide.2 (host_fits_small_at x _ hx hsm.out))).mono ?_; rintro e w2 ⟨rfl, rfl⟩)
      have hw64 : (pre.length : Int) + 1 = ((pre ++ [⟨(j, x), hx⟩] : List Lab).length : Int) := by simp
      rw [hw64]
      refine ⟨ko (ko (KeepsOthers.refl W) _ _) _ _, ((Upper.refl _ W).setCell sz_ _).setCell sz_ _, ⟨?_, ?_, ?_, ?_, ?_⟩, (hbW.setCell (by simp; omega) _).setCell (by simp; omega) _⟩
      · exact (b1.far (by simp; omega) _).far (by simp; omega) _
      · exact (b2.far (by simp; omega) _).far (by simp; omega) _
      · have := (b3.set_ 0 ((Value.string ⟨(x).toArray⟩))).far (p := ⟨w1.heap.size + 1, 0, none⟩) (by simp) (Value.int .i64 ((pre ++ [⟨(j, x), hx⟩] : List Lab).length : Int))
        simpa using this
      · have := (b4.far (p := ⟨w1.heap.size, 0, none⟩) (by simp) ((Value.string ⟨(x).toArray⟩))).set_ 0 (Value.int .i64 ((pre ++ [⟨(j, x), hx⟩] : List Lab).length : Int))
        simpa using this
      · rw [List.map_append, List.all_append, hall]
        simp [hlab.out]
    · have hf : Gl.isLabel x = false := by simpa using hlab
      clear hlab
      rcases (show x.length < 1 ∨ 63 < x.length ∨ (1 ≤ x.length ∧ x.length ≤ 63 ∧ x.all Gl.isSmall = false) from by
        by_cases h1 : x.length < 1
        · exact .inl h1
        · by_cases h2 : 63 < x.length
          · exact .inr (.inl h2)
          · refine .inr (.inr ⟨by omega, by omega, ?_⟩)
            simp [Gl.isLabel] at hf
            have := hf (by omega) (by omega)
            simpa using this) with h1 | h1 | ⟨h1, h2, h3⟩
      · gi_wp2
        refine ⟨trivial, ?_⟩
        gi_wp2
        have e1 : Blk (W.setCell ⟨w.heap.size, 0, none⟩ (Value.string ⟨#[]⟩)) w.heap.size 26 _ := b1.set_ 0 _
        have e2 := (e1.set_ 1 (Value.bool false)).set_ 2 (Value.int .u32 0)
        refine hno _ (ko (ko (ko (ko (KeepsOthers.refl W) _ _) _ _) _ _) _ _) (((((Upper.refl _ W).setCell (by simp; omega) _).setCell (by simp; omega) _).setCell (by simp; omega) _).setCell (by simp; omega) _)
          ((((hbW.setCell (by simp) _).setCell (by simp) _).setCell (by simp) _).setCell (by simp) _) ?_ ?_ hf
        · exact (by simpa using e2.far (p := ⟨w.heap.size + 1, 0, none⟩) (by simp) (Value.int .i64 20))
        · have := (((b2.far (p := ⟨w.heap.size, 0, none⟩) (by simp) (Value.string ⟨#[]⟩)).far (p := ⟨w.heap.size, 1, none⟩) (by simp) (Value.bool false)).far (p := ⟨w.heap.size, 2, none⟩) (by simp) (Value.int .u32 0)).set_ 0 (Value.int .i64 20)
          simpa using this
      · gi_wp2
        refine ⟨trivial, ?_⟩
        gi_wp2
        have e1 : Blk (W.setCell ⟨w.heap.size, 0, none⟩ (Value.string ⟨#[]⟩)) w.heap.size 26 _ := b1.set_ 0 _
        have e2 := (e1.set_ 1 (Value.bool false)).set_ 2 (Value.int .u32 0)
        refine hno _ (ko (ko (ko (ko (KeepsOthers.refl W) _ _) _ _) _ _) _ _) (((((Upper.refl _ W).setCell (by simp; omega) _).setCell (by simp; omega) _).setCell (by simp; omega) _).setCell (by simp; omega) _)
          ((((hbW.setCell (by simp) _).setCell (by simp) _).setCell (by simp) _).setCell (by simp) _) ?_ ?_ hf
        · exact (by simpa using e2.far (p := ⟨w.heap.size + 1, 0, none⟩) (by simp) (Value.int .i64 20))
        · have := (((b2.far (p := ⟨w.heap.size, 0, none⟩) (by simp) (Value.string ⟨#[]⟩)).far (p := ⟨w.heap.size, 1, none⟩) (by simp) (Value.bool false)).far (p := ⟨w.heap.size, 2, none⟩) (by simp) (Value.int .u32 0)).set_ 0 (Value.int .i64 20)
          simpa using this
      · gi_wp2_with (refine ⟨trivial, ?_⟩; gi_at_call 111; refine (CallsIn.inRound l (callsIn_wide.2 (host_fits_small_at x _ hx h3))).mono ?_; rintro e w2 ⟨rfl, rfl⟩)
        have e1 : Blk (W.setCell ⟨w.heap.size, 0, none⟩ (Value.string ⟨#[]⟩)) w.heap.size 26 _ := b1.set_ 0 _
        have e2 := (e1.set_ 1 (Value.bool false)).set_ 2 (Value.int .u32 0)
        refine hno _ (ko (ko (ko (ko (KeepsOthers.refl W) _ _) _ _) _ _) _ _) (((((Upper.refl _ W).setCell (by simp; omega) _).setCell (by simp; omega) _).setCell (by simp; omega) _).setCell (by simp; omega) _)
          ((((hbW.setCell (by simp) _).setCell (by simp) _).setCell (by simp) _).setCell (by simp) _) ?_ ?_ hf
        · exact (by simpa using e2.far (p := ⟨w.heap.size + 1, 0, none⟩) (by simp) (Value.int .i64 20))
        · have := (((b2.far (p := ⟨w.heap.size, 0, none⟩) (by simp) (Value.string ⟨#[]⟩)).far (p := ⟨w.heap.size, 1, none⟩) (by simp) (Value.bool false)).far (p := ⟨w.heap.size, 2, none⟩) (by simp) (Value.int .u32 0)).set_ 0 (Value.int .i64 20)
          simpa using this
  case stop =>
    rintro D c pre W hD hpre ⟨⟨rfl, b1, b2, hall⟩, hbW⟩ hK
    replace hRR : Hid (R = ({}, 20)) := Lib.hid (hRR.out.trans (hostOf_bad s (by
      obtain ⟨q, hq⟩ := hpre
      rw [← hq, List.all_append, hall, Bool.false_and])))
    gi_wp2
    refine host_fin1 (by simp at hD; omega) hK (n := []) (v := false) (ad := 0) (e := 20) b1 b2 hbW _ rfl rfl ?_
    rw [hRR.out]
    rfl
  case done =>
    rintro D ys W hD hys ⟨⟨b1, b2, b3, b4, hall⟩, hbW⟩ hK
    have hD' : w1.heap.size + 3 ≤ D := by simp at hD; omega
    have hyl : ys.length = (Gl.split 46 s).length := by rw [← hys, List.length_map]
    have hs0' : 1 ≤ s.length := by
      rcases Nat.eq_zero_or_pos s.length with h | h
      · obtain rfl := List.length_eq_zero_iff.1 h
        rw [hys] at hall
        exact absurd hall (by decide)
      · exact h
    have hpos := split_pos 46 s
    have hlen := split_len 46 s
    have hmem := split_mem 46 s
    rw [hys] at b3 hall
    rw [hyl] at b4
    clear hL h0 hb hyl hS hys hD
    have hlst : (((Gl.split 46 s).getLast?).getD []).length ≤ 281474976710656 := by
      rw [List.getLast?_eq_getElem?, List.getElem?_eq_getElem (by omega)]
      have := hmem _ (List.getElem_mem (show (Gl.split 46 s).length - 1 < (Gl.split 46 s).length by omega))
      simp only [Option.getD_some]
      omega
    have hK0 := (Array.getElem?_eq_some_iff.1 hK).1
    by_cases h253 : 253 < s.length
    · replace hRR : Hid (R = ({}, 20)) := Lib.hid (hRR.out.trans (by rw [Gl.hostOf, if_pos (Or.inr h253)]))
      have c1 := b1.frozen
      have c2 := b2.frozen
      have d1 := b1.cell
      have d2 := b2.cell
      have d3 := b3.cell
      have d4 := b4.cell
      have hlw : w.heap.size + 1 < w1.heap.size := by omega
      gi_wp2
      refine ⟨trivial, ?_⟩
      gi_wp2
      obtain ⟨q1, q2, q3, q4⟩ := hstore (Value.string ⟨#[]⟩) (Value.bool false) (Value.int .u32 0) (Value.int .i64 20) b1 b2 hbW
      refine host_fin1 (by omega) (q4.same D _ hK rfl) (n := []) (v := false) (ad := 0) (e := 20) q1 q2 q3 _ rfl rfl ?_
      rw [hRR.out]
      rfl
    · have hl253 : s.length ≤ 253 := by omega
      replace hRR : Hid (R = Gl.host2 s (Gl.split 46 s)) := Lib.hid (hRR.out.trans (by rw [Gl.hostOf, if_neg (by omega), Gl.host1, hall]; rfl))
      generalize hL : Gl.split 46 s = L at *
      replace hL := Lib.hid hL
      replace hmem := Lib.hid hmem
      generalize hlast : L.getLast?.getD [] = last at *
      have c1 := b1.frozen
      have c2 := b2.frozen
      have d1 := b1.cell
      have d2 := b2.cell
      have d3 := b3.cell
      have d4 := b4.cell
      have hlw : w.heap.size + 1 < w1.heap.size := by omega
      have h2 : Gl.host2 s L = if !last.all Gl.isDigit then ({ name := s }, 0) else if L.length ≠ 4 then ({}, 20) else Gl.host3 L := by
        rw [Gl.host2, hlast]
      replace hRR := Lib.hid (hRR.out.trans h2)
      clear hlast h2
      cases hdig : last.all Gl.isDigit with
      | false =>
        replace hRR : Hid (R = ({ name := s }, 0)) := Lib.hid (by rw [hRR.out, hdig]; rfl)
        replace hdig := Lib.hid hdig
        gi_wp2_with (refine ⟨trivial, ?_⟩; gi_at_call 111; refine (callsIn_wide.2 (host_fits_digit_at last _ hlst hdig.out)).mono ?_; rintro e w2 ⟨rfl, rfl⟩)
        obtain ⟨q1, q2, q3, q4⟩ := hstore ((Value.string ⟨(s).toArray⟩)) (Value.bool false) (Value.int .u32 0) (Value.int .i64 0) b1 b2 hbW
        refine host_fin1 (by omega) (q4.same D _ hK rfl) (n := s) (v := false) (ad := 0) (e := 0) q1 q2 q3 _ rfl rfl ?_
        rw [hRR.out]
        rfl
      | true =>
        by_cases h4 : L.length = 4
        · have h4' : ((L.length : Int) != 4) = false := by rw [h4]; rfl
          have hd253 : decide (253 < (s.length : Int)) = false := by simp; omega
          replace hRR : Hid (R = Gl.host3 L) := Lib.hid (by rw [hRR.out, hdig, if_neg (by simp), if_neg (fun h => h h4)])
          replace hdig := Lib.hid hdig
          replace h4 := Lib.hid h4
          gi_wp2_with (first
            | (refine ⟨trivial, ?_⟩; gi_at_call 111; refine (callsIn_wide.2 (host_fits_digit_at last _ hlst hdig.out)).mono ?_; rintro e w2 ⟨rfl, rfl⟩)
            | (refine ⟨trivial, ?_⟩; gi_at_call 110; refine (callsIn_wide.2 (host_labels s _)).mono ?_; rintro e w2 ⟨rfl, rfl⟩))
          have hL2 := labels_stops 19 (by omega) (W.heap.size + 1) (W.heap.size + 2) s hs1 hs ((W.alloc (Obj.cells #[Value.string ⟨#[]⟩, Value.bool true, Value.int .u32 0] 26)).alloc (Obj.cells #[(Value.string ⟨(s).toArray⟩)] 9)) (by simp) (by simp) (by go_simp)
          have h0 : HJ w W.heap.size D [] ((W.alloc (Obj.cells #[Value.string ⟨#[]⟩, Value.bool true, Value.int .u32 0] 26)).alloc (Obj.cells #[(Value.string ⟨(s).toArray⟩)] 9)) := by
            refine ⟨⟨⟨(b1.alloc _).alloc _, (b2.alloc _).alloc _, 0, by simp, rfl, (Blk.new W _ _).alloc _⟩, ?_⟩, (hbW.alloc hbW.size _).alloc (by simp; have := hbW.size; omega) _⟩
            exact ((Below.heap_alloc _ _ _ (by simp; omega)).trans (Below.heap_alloc _ _ _ hK0)).trans hK
          rw [hL.out] at hL2
          refine wpIn_rangeFunc_ownF rfl (by omega) (gf := 133) (lb := #[.pointer (some ⟨W.heap.size + 1, 0, none⟩)]) rfl trivial (enters_of Tryz.func133 (by kernel_rfl) rfl) hL2 (fun h k => h.trans k) (fun W l o o' _ h ho _ => Upper.putObj W l o o' h ho) (Below.refl _ _) (fun _ => rfl)
            (HJ w W.heap.size D) (HJx w D) (HJ.own w _ D _ (by simp; have := hbW.size; omega) (by simp; omega)) (fun c => HJx.own w D c _ (by simp; have := hbW.size; omega) (by simp; omega)) h0
            (fun x => { tmps := #[(Value.string ⟨(s).toArray⟩), undef, Value.pointer (some ⟨w.heap.size, 0, none⟩), Value.pointer (some ⟨w.heap.size + 1, 0, none⟩), Value.pointer (some ⟨w1.heap.size, 0, none⟩), Value.pointer (some ⟨w1.heap.size + 1, 0, none⟩), undef, undef, Value.pointer (some ⟨W.heap.size, 0, none⟩), undef, (Value.string ⟨(x.1.2).toArray⟩), undef, undef, (Value.string ⟨(s0).toArray⟩), (Value.string ⟨(s).toArray⟩), (Value.string ⟨(s).toArray⟩), Value.func (Fn.func 133) #[] #[Value.pointer (some ⟨w1.heap.size + 1 + 1, 0, none⟩)], undef, undef, undef, undef, undef, undef, undef, undef, undef, undef, undef, undef, undef, undef, undef, undef, undef, undef, undef, Value.bool false, (Value.string ⟨(s).toArray⟩), Value.int .i64 (s.length : Int), Value.bool false, Value.bool false, (Value.string ⟨(last).toArray⟩), Value.bool true, Value.bool true, Value.int .i64 (L.length : Int), Value.bool false, Value.bool false, Value.bool false, undef, Value.bool false, (Value.string ⟨(last).toArray⟩), Value.bool true, Value.bool false, undef, undef, Value.agg #[Value.string ⟨#[]⟩, Value.bool true, Value.int .u32 0], (Value.string ⟨(s).toArray⟩), Value.func (Fn.func 133) #[] #[Value.pointer (some ⟨W.heap.size + 1, 0, none⟩)], Value.int .i64 (x.1.1 : Int), (Value.string ⟨(x.1.2).toArray⟩), undef, undef, undef, undef, undef, undef, undef, undef, undef, undef, undef, undef, undef, undef, undef, undef], defers := [] }) ?assign2 ?body2 ?done2 ?stop2
          case assign2 =>
            intro l x W K hK
            simp only [encLab]
            gi_wp2
            exact hK
          case body2 =>
            clear b1 b2 b3 b4 c1 c2 d1 d2 d3 d4 hK hL2 h0
            rintro l pre ⟨⟨j, x⟩, hx⟩ V ⟨⟨⟨b1, b2, a, ha, hra, b3⟩, hK⟩, hbV⟩ hpre
            have c1 := b1.frozen
            have c2 := b2.frozen
            have c3 := b3.frozen
            have d1 := b1.cell
            have d2 := b2.cell
            have d3 := b3.cell
            have hsz := hbW.size
            have hgw : w.heap.size + 1 < W.heap.size := by omega
            cases hn : Gl.number x 255 with
            | none =>
              have hf : Hid (Gl.addrGo 0 ((pre ++ [(⟨(j, x), hx⟩ : Lab)]).map (fun x : Lab => x.1.2)) = none) := Lib.hid (by
                rw [List.map_append, List.map_cons, List.map_nil, addrGo_snoc, hra]; simp only [Option.bind_some]; rw [hn]; rfl)
              replace hn := Lib.hid hn
              replace hra := Lib.hid hra
              gi_wp2_with (refine ⟨trivial, ?_⟩; gi_at_call 85; refine (CallsIn.inRound l (callsIn_wide.2 (octet_number_none x 255 _ hx (by omega) (by omega) hn.out))).mono ?_; rintro e w2 ⟨rfl, rfl⟩)
              obtain ⟨q1, q2, q3, q4⟩ := hstore (Value.string ⟨#[]⟩) (Value.bool false) (Value.int .u32 0) (Value.int .i64 20) b1 b2 hbV
              exact ⟨q4, ⟨⟨rfl, q1, q2, hf.out⟩, q4.same D _ hK rfl⟩, q3⟩
            | some n =>
              obtain ⟨hn0, hn1⟩ := number_range (by omega) hn
              obtain ⟨m, rfl⟩ := Int.eq_ofNat_of_zero_le hn0
              have hp4 : pre.length ≤ 3 := by have := h4.out; omega
              have ha2 : a < 16777216 := by
                have : 256 ^ pre.length ≤ 256 ^ 3 := Nat.pow_le_pow_right (by omega) hp4
                omega
              have ha3 : (a : Int) ≤ 16777215 := by omega
              have hf : Hid (Gl.addrGo 0 ((pre ++ [(⟨(j, x), hx⟩ : Lab)]).map (fun x : Lab => x.1.2)) = some (a * 256 + m)) := Lib.hid (by
                rw [List.map_append, List.map_cons, List.map_nil, addrGo_snoc, hra]; simp only [Option.bind_some]; rw [hn]
                simp only [Option.map_some, Int.toNat_natCast]
                rw [show (a * 256 + m) % 4294967296 = a * 256 + m from by omega])
              have hor := or256 a m (by omega) ha2
              have ha4 : a * 256 + m < 256 ^ (pre ++ [(⟨(j, x), hx⟩ : Lab)]).length := by
                rw [List.length_append, List.length_singleton, Nat.pow_succ]; omega
              replace hn := Lib.hid hn
              replace hra := Lib.hid hra
              replace ha4 := Lib.hid ha4
              clear ha
              gi_wp2_with (refine ⟨trivial, ?_⟩; gi_at_call 85; refine (CallsIn.inRound l (callsIn_wide.2 (octet_number_some x 255 m _ hx (by omega) (by omega) hn.out))).mono ?_; rintro e w2 ⟨rfl, rfl⟩)
              have e0 : Blk (V.setCell ⟨W.heap.size, 2, none⟩ (Value.int .u32 ((a : Int) * 256 + m))) W.heap.size 26 _ := b3.set_ 2 _
              refine ⟨ko (KeepsOthers.refl V) _ _, (Upper.refl _ V).setCell sz_ _, ⟨⟨b1.far sz_ _, b2.far sz_ _, a * 256 + m, ha4.out, hf.out, ?_⟩, ?_⟩, hbV.setCell sz_ _⟩
              · push_cast
                simpa using e0
              · exact (KeepsOthers.setCell V _ _).same D _ hK rfl
          case done2 =>
            rintro E ys W' hE hys ⟨⟨⟨b1, b2, a, ha, hra, b3⟩, hK'⟩, hbW'⟩ hK2
            simp at hE
            have d1 := b1.cell
            have d2 := b2.cell
            have d3 := b3.cell
            have c1 := b1.frozen
            have c2 := b2.frozen
            have c3 := b3.frozen
            have hsz := hbW.size
            have hgw : w.heap.size + 1 < W.heap.size := by omega
            rw [hys] at hra
            replace hRR : Hid (R = ({ v4 := true, addr := a }, 0)) := Lib.hid (by rw [hRR.out, Gl.host3, hra])
            replace hra := Lib.hid hra
            clear ha
            gi_wp2
            obtain ⟨q1, q2, q3, q4⟩ := hstore (Value.string ⟨#[]⟩) (Value.bool true) (Value.int .u32 (a : Int)) (Value.int .i64 0) b1 b2 hbW'
            refine host_fin2 (by omega) (by omega) (by omega) (q4.same E _ hK2 rfl) (q4.same D _ hK' rfl) (n := []) (v := true) (ad := (a : Int)) (e := 0) q1 q2 q3 _ rfl rfl ?_
            rw [hRR.out]
          case stop2 =>
            rintro E c pre W' hE hpre ⟨⟨⟨rfl, b1, b2, hra⟩, hK'⟩, hbW'⟩ hK2
            simp at hE
            replace hRR : Hid (R = ({}, 20)) := Lib.hid (by
              obtain ⟨q, hq⟩ := hpre
              rw [hRR.out, Gl.host3, ← hq, addrGo_none _ _ _ hra])
            have hsz := hbW.size
            gi_wp2
            refine host_fin2 (by omega) (by omega) (by omega) hK2 hK' (n := []) (v := false) (ad := 0) (e := 20) b1 b2 hbW' _ rfl rfl ?_
            rw [hRR.out]
            rfl
        · have h4' : ((L.length : Int) != 4) = true := by rw [bne_iff_ne]; omega
          replace hRR : Hid (R = ({}, 20)) := Lib.hid (by rw [hRR.out, hdig, if_pos h4]; rfl)
          replace hdig := Lib.hid hdig
          replace h4 := Lib.hid h4
          gi_wp2_with (refine ⟨trivial, ?_⟩; gi_at_call 111; refine (callsIn_wide.2 (host_fits_digit_at last _ hlst hdig.out)).mono ?_; rintro e w2 ⟨rfl, rfl⟩)
          obtain ⟨q1, q2, q3, q4⟩ := hstore (Value.string ⟨#[]⟩) (Value.bool false) (Value.int .u32 0) (Value.int .i64 20) b1 b2 hbW
          refine host_fin1 (by omega) (q4.same D _ hK rfl) (n := []) (v := false) (ad := 0) (e := 20) q1 q2 q3 _ rfl rfl ?_
          rw [hRR.out]
          rfl
end Go.Proofs.YtbafofldgkigmaaGreatDoor
namespace Go.Proofs.YtbafofldgkigmaaGreatDoor
open Go.RowKit

/-- What the library reads of the start: the shape of the variables, and the table of powers of ten. -/
structure Env (w : World) : Prop where
  shaped : w.ShapedOpen Tryz.prog
  tab : Lib.TabIs Tryz.prog w "internal/strconv.uint64pow10" .u64 Lib.pow10Tab
theorem Env.below {w w' : World} (h : Env w) (hb : Below w.heap.size w w') : Env w' := by
  refine ⟨h.shaped.keptBut (may := fun _ => False) (hb.frame _) (fun p hp => hp.elim), ?_⟩
  have ht := h.tab
  unfold Lib.TabIs World.var? at *
  cases hg : (Tryz.prog).globalNamed "internal/strconv.uint64pow10" with
  | none => simp [hg] at ht
  | some g =>
    simp only [hg, Option.bind_some] at ht ⊢
    have hlt : g < w.heap.size := by
      rcases Nat.lt_or_ge g w.heap.size with h' | h'
      · exact h'
      · simp [Array.getElem?_eq_none h'] at ht
    rw [hb.block g hlt]
    exact ht

theorem grow_below (w : World) (k : Nat) (os : Array Obj) : Below w.heap.size w (Sort.grow (w.drewN k) os) :=
  ⟨rfl, rfl, rfl, by simp [Sort.grow], fun j hj => by simp [Sort.grow, Array.getElem?_append_left hj]⟩

theorem itoa_any (n : Int) (h0 : -9223372036854775808 ≤ n) (h1 : n ≤ 9223372036854775807) (w : World) (hE : Env w) :
    Calls Tryz.prog 94 #[.int .i64 n] w (Ret w ((Value.string ⟨(Lib.itoa n).toArray⟩))) :=
  (Tryz.strconv_Itoa n h0 h1 w hE.tab).mono fun _ _ ⟨he, k, os, hw⟩ => ⟨he, hw ▸ grow_below w k os⟩

/-! ### one byte looked for -/
theorem index_one (c : UInt8) (l : List UInt8) : Lib.index l [c] = if l.contains c then ((l.takeWhile (fun x => !([c] : List UInt8).contains x)).length : Int) else -1 := by
  induction l with
  | nil => simp [Lib.index]
  | cons b l ih =>
    unfold Lib.index
    by_cases hb : b = c
    · subst hb
      simp
    · have h1 : ([c] : List UInt8).isPrefixOf (b :: l) = false := by simp [List.isPrefixOf]; exact fun h => hb h.symm
      have h2 : ([c] : List UInt8).contains b = false := by simp [hb]
      have h3 : (b :: l).contains c = l.contains c := by simp [Ne.symm hb]
      rw [h1, ih, h3, List.takeWhile_cons, h2]
      cases hc : l.contains c with
      | false => simp
      | true =>
        simp only [if_true, Bool.not_false, List.length_cons, Bool.false_eq_true, if_false]
        rw [if_neg (by rw [beq_iff_eq]; omega)]
        push_cast
        rfl
theorem takeWhile_take (p : UInt8 → Bool) (l : List UInt8) : l.take (l.takeWhile p).length = l.takeWhile p := by
  have e : l = l.takeWhile p ++ l.dropWhile p := List.takeWhile_append_dropWhile.symm
  conv => lhs; arg 2; rw [e]
  rw [List.take_left]
theorem takeWhile_drop (p : UInt8 → Bool) (l : List UInt8) : l.drop (l.takeWhile p).length = l.dropWhile p := by
  have e : l = l.takeWhile p ++ l.dropWhile p := List.takeWhile_append_dropWhile.symm
  conv => lhs; arg 2; rw [e]
  rw [List.drop_left]
theorem span_miss (c : UInt8) (l : List UInt8) (h : l.contains c = false) : Gl.span [c] l = (l, []) :=
  span_all [c] l (by rw [List.all_eq_true]; intro x hx; simp; intro e; subst e; simp at h; exact h hx)
theorem span_hit (c : UInt8) (l : List UInt8) (h : l.contains c = true) : (Gl.span [c] l).2 ≠ [] := by
  intro e
  have e1 : l.takeWhile (fun x => !([c] : List UInt8).contains x) ++ l.dropWhile (fun x => !([c] : List UInt8).contains x) = l := List.takeWhile_append_dropWhile
  have e2 : l.dropWhile (fun x => !([c] : List UInt8).contains x) = [] := e
  rw [e2, List.append_nil] at e1
  have e3 : (l.takeWhile (fun x => !([c] : List UInt8).contains x)).all (fun x => !([c] : List UInt8).contains x) = true := List.all_takeWhile
  rw [e1, List.all_eq_true] at e3
  have := e3 c (by simpa using h)
  simp at this
theorem cut_one (c : UInt8) (l : List UInt8) : Lib.cut l [c] = ((Gl.span [c] l).1, (Gl.span [c] l).2.drop 1, !(Gl.span [c] l).2.isEmpty) := by
  unfold Lib.cut
  rw [index_one]
  cases h : l.contains c with
  | false => rw [span_miss c l h]; simp
  | true =>
    have h2 := span_hit c l h
    simp only [if_true]
    rw [if_pos (by omega), Int.toNat_natCast, takeWhile_take]
    refine Prod.ext rfl (Prod.ext ?_ ?_)
    · show l.drop (_ + 1) = _
      rw [← List.drop_drop, takeWhile_drop]
      rfl
    · show true = _
      cases hs : (Gl.span [c] l).2 with
      | nil => exact absurd hs h2
      | cons => rfl

/-- strings.Cut at one byte. -/
theorem cut_any (l : List UInt8) (c : UInt8) (w : World) (hE : Env w) (hl : l.length < 4294967281) :
    Calls Tryz.prog 50 #[(Value.string ⟨(l).toArray⟩), .string ⟨#[c]⟩] w (Ret w (.tuple #[(Value.string ⟨((Gl.span [c] l).1).toArray⟩), (Value.string ⟨((Gl.span [c] l).2.drop 1).toArray⟩), .bool (!(Gl.span [c] l).2.isEmpty)])) := by
  refine (Tryz.strings_Cut_shaped ⟨l.toArray⟩ ⟨#[c]⟩ w hE.shaped hl).mono fun e w' ⟨he, n, hw⟩ => ⟨?_, hw ▸ below_drewN (Below.refl _ _) n⟩
  rw [he]
  show Ending.returned (.tuple #[.string ⟨(Lib.cut l [c]).1.toArray⟩, .string ⟨(Lib.cut l [c]).2.1.toArray⟩, .bool (Lib.cut l [c]).2.2]) = _
  rw [cut_one]

theorem indexByte_neg (l : List UInt8) (c : UInt8) : Lib.indexByte l c = -1 ↔ l.contains c = false := by
  induction l with
  | nil => simp [Lib.indexByte]
  | cons b l ih =>
    unfold Lib.indexByte
    have hge := Lib.indexByte_ge l c
    by_cases hb : b = c
    · subst hb; simp
    · rw [if_neg (by simpa using hb)]
      have h3 : (b :: l).contains c = l.contains c := by simp [Ne.symm hb]
      rw [h3, ← ih]
      split
      · rename_i h; simp at h; simp [h]
      · rename_i h; simp at h; constructor
        · intro h'; omega
        · intro h'; exact absurd h' h
/-- strings.IndexByte: is a byte there? -/
theorem indexByte_any (l : List UInt8) (c : UInt8) (w : World) :
    Calls Tryz.prog 82 #[(Value.string ⟨(l).toArray⟩), .int .u8 c.toNat] w (Same w (.int .i64 (Lib.indexByte l c))) := by
  refine (Tryz.strings_IndexByte ⟨l.toArray⟩ c.toNat w).mono fun e w' ⟨he, hw⟩ => ⟨?_, hw.symm⟩
  rw [he]
  simp
theorem cutPrefix_any (l p : List UInt8) (w : World) :
    Calls Tryz.prog 83 #[(Value.string ⟨(l).toArray⟩), (Value.string ⟨(p).toArray⟩)] w (Same w (.tuple #[(Value.string ⟨(if p.isPrefixOf l then l.drop p.length else l).toArray⟩), .bool (p.isPrefixOf l)])) :=
  (Tryz.strings_CutPrefix ⟨l.toArray⟩ ⟨p.toArray⟩ w).mono fun _ _ ⟨he, hw⟩ => ⟨he, hw.symm⟩
theorem hasPrefix_any (l p : List UInt8) (w : World) :
    Calls Tryz.prog 55 #[(Value.string ⟨(l).toArray⟩), (Value.string ⟨(p).toArray⟩)] w (Same w (.bool (p.isPrefixOf l))) :=
  (Tryz.strings_HasPrefix ⟨l.toArray⟩ ⟨p.toArray⟩ w).mono fun _ _ ⟨he, hw⟩ => ⟨he, hw.symm⟩
theorem trimPrefix_any (l p : List UInt8) (w : World) :
    Calls Tryz.prog 115 #[(Value.string ⟨(l).toArray⟩), (Value.string ⟨(p).toArray⟩)] w (Same w ((Value.string ⟨(if p.isPrefixOf l then l.drop p.length else l).toArray⟩))) :=
  (Tryz.strings_TrimPrefix ⟨l.toArray⟩ ⟨p.toArray⟩ w).mono fun _ _ ⟨he, hw⟩ => ⟨he, hw.symm⟩

theorem split_none (c : UInt8) (l : List UInt8) (h : l.contains c = false) : Gl.split c l = [l] := by
  have := splitGo_append c [] l [] (by simpa using h)
  simpa [Gl.split, Gl.splitGo] using this
theorem split_some (c : UInt8) (p r : List UInt8) (h : p.contains c = false) : Gl.split c (p ++ c :: r) = p :: Gl.split c r := by
  have := splitGo_append c [] p (c :: r) (by simpa using h)
  rw [Gl.split, this]
  simp [Gl.splitGo, Gl.split]
theorem span_parts (c : UInt8) (l : List UInt8) (h : l.contains c = true) : l = (Gl.span [c] l).1 ++ c :: (Gl.span [c] l).2.drop 1 ∧ (Gl.span [c] l).1.contains c = false := by
  have e1 : (Gl.span [c] l).1 ++ (Gl.span [c] l).2 = l := List.takeWhile_append_dropWhile
  have e3 : (l.takeWhile (fun x => !([c] : List UInt8).contains x)).all (fun x => !([c] : List UInt8).contains x) = true := List.all_takeWhile
  have h2 := span_hit c l h
  have h4 : ∃ r, (Gl.span [c] l).2 = c :: r := by
    cases hs : (Gl.span [c] l).2 with
    | nil => exact absurd hs h2
    | cons x r =>
      have hx : (fun x => !([c] : List UInt8).contains x) x = false := by
        have := List.head?_dropWhile_not (p := fun x => !([c] : List UInt8).contains x) (l := l)
        rw [show l.dropWhile (fun x => !([c] : List UInt8).contains x) = x :: r from hs] at this
        simpa using this
      simp at hx
      exact ⟨r, by rw [hx]⟩
  obtain ⟨r, hr⟩ := h4
  constructor
  · conv => lhs; rw [← e1, hr]
    rw [hr]
    rfl
  · rw [List.all_eq_true] at e3
    simp only [Gl.span]
    cases hc : (l.takeWhile (fun x => !([c] : List UInt8).contains x)).contains c with
    | false => rfl
    | true =>
      have := e3 c (by simpa using hc)
      simp at this

theorem splitK_one (c : UInt8) : ∀ (n : Nat) (l : List UInt8), l.length ≤ n → Lib.splitK [c] 0 (l.count c) l = Gl.split c l := by
  intro n
  induction n with
  | zero =>
    intro l hl
    obtain rfl : l = [] := List.eq_nil_of_length_eq_zero (by omega)
    rfl
  | succ n ih =>
    intro l hl
    cases hc : l.contains c with
    | false =>
      rw [List.count_eq_zero.2 (by simpa using hc), Lib.splitK, split_none c l hc]
    | true =>
      obtain ⟨e, hp⟩ := span_parts c l hc
      generalize hsp : (Gl.span [c] l).1 = p at *
      generalize (Gl.span [c] l).2.drop 1 = r at *
      subst e
      have hcp : p.count c = 0 := List.count_eq_zero.2 (by simpa using hp)
      have hix : Lib.index (p ++ c :: r) [c] = (p.length : Int) := by
        rw [index_one, hc, if_pos rfl]
        rw [show (List.takeWhile (fun x => !([c] : List UInt8).contains x) (p ++ c :: r)) = p from hsp]
      rw [List.count_append, hcp, List.count_cons_self, Nat.zero_add, Lib.splitK, hix, if_neg (by rw [beq_iff_eq]; omega), split_some c p r hp]
      rw [Int.toNat_natCast, Nat.add_zero, List.take_left]
      congr 1
      rw [List.length_singleton, ← List.drop_drop, List.drop_left]
      have := ih r (by simp at hl; omega)
      simpa using this

/-- strings.Split at one byte. -/
theorem splitS_any (l : List UInt8) (c : UInt8) (w : World) (hE : Env w) (hl : l.length < 4294967281) :
    Calls Tryz.prog 114 #[(Value.string ⟨(l).toArray⟩), .string ⟨#[c]⟩] w (RetStrs w (Gl.split c l)) := by
  refine (Tryz.strings_Split_shaped ⟨l.toArray⟩ ⟨#[c]⟩ w hE.shaped hl (Nat.le_refl 1)).mono fun e w' ⟨he, hw⟩ => ?_
  have hcnt : Lib.countB (⟨l.toArray⟩ : ByteArray) ⟨#[c]⟩ = l.count c := Lib.count_one c l
  have hmap : (Lib.splitB (⟨#[c]⟩ : ByteArray) 0 (l.count c) ⟨l.toArray⟩).map (·.data.toList) = Gl.split c l := by
    rw [Lib.splitB_data]
    exact splitK_one c l.length l (Nat.le_refl _)
  rw [hcnt] at he hw
  have hlen : (Gl.split c l).length = l.count c + 1 := by
    rw [← hmap, List.length_map]
    exact Lib.splitB_all (⟨#[c]⟩ : ByteArray) (Nat.le_refl 1) 0 _ _ hcnt
  have hstr : (Lib.splitB (⟨#[c]⟩ : ByteArray) 0 (l.count c) ⟨l.toArray⟩).map Value.string = strs (Gl.split c l) := by
    rw [← hmap]
    simp [strs, str]
  subst hw
  refine ⟨_, he, ⟨by simp [strs], Or.inr ⟨w.heap.size, l.count c + 1, _, by rw [hlen], Nat.le_refl _, heap_alloc_new _ _, by omega, ?_, ?_, ?_⟩⟩, (Below.refl _ _).alloc (Nat.le_refl _) _⟩
  · have := List.count_le_length (a := c) (l := l)
    unfold maxLen
    omega
  · rw [hstr]; simp [strs, hlen]
  · rw [hstr]
    show List.take _ (strs _).toArray.toList = _
    exact List.take_of_length_le (by simp [strs])

/-- strings.Join. -/
theorem join_any (L : List (List UInt8)) (sep : List UInt8) (v : Value) (w : World) (hv : Strs w w.heap.size v L) (hN : L.length ≤ 140737488355328) (hlen : (Lib.join L sep).length ≤ 140737488355328) :
    Calls Tryz.prog 90 #[v, (Value.string ⟨(sep).toArray⟩)] w (Ret w ((Value.string ⟨(Lib.join L sep).toArray⟩))) := by
  obtain ⟨A, c, rfl, h1, h2, h3⟩ := hv
  by_cases h0 : 0 < L.length
  · obtain ⟨b, o, rfl, hB, hc⟩ := h3 h0
    have hm : (L.map (fun x => (⟨x.toArray⟩ : ByteArray))).map (·.data.toList) = L := by
      rw [List.map_map]
      conv => rhs; rw [← List.map_id L]
      rfl
    have := Tryz.strings_Join b o c (L.map (fun x => (⟨x.toArray⟩ : ByteArray))) ⟨sep.toArray⟩ w (fun j x hx => by
      rw [List.getElem?_map] at hx
      cases hj : L[j]? with
      | none => rw [hj] at hx; cases hx
      | some y =>
        rw [hj] at hx
        simp at hx
        subst hx
        obtain ⟨hlt, rfl⟩ := List.getElem?_eq_some_iff.1 hj
        exact hc j hlt) hB (by simpa using hN) (by simpa using h1) (by rw [hm]; exact hlen)
    rw [hm, List.length_map] at this
    exact this
  · obtain rfl : L = [] := List.eq_nil_of_length_eq_zero (by omega)
    refine (Tryz.strings_Join_none A c ⟨sep.toArray⟩ w).mono fun e w' ⟨he, hw⟩ => ⟨?_, hw ▸ Below.refl _ _⟩
    rw [he]
    rfl

end Go.Proofs.YtbafofldgkigmaaGreatDoor
namespace Go.Proofs.YtbafofldgkigmaaGreatDoor
open Go.RowKit

def fourTo (a : Nat) : Nat → List UInt8
  | 0 => []
  | k + 1 => fourTo a k ++ (if k = 0 then [] else [46]) ++ Gl.four a k
theorem four_len (a i : Nat) : (Gl.four a i).length ≤ 21 := Lib.itoa_length_le _ (by omega) (by omega)
theorem fourTo_len (a k : Nat) (_ : a < 4294967296) (hk : k ≤ 4) : (fourTo a k).length ≤ 100 := by
  rcases (show k = 0 ∨ k = 1 ∨ k = 2 ∨ k = 3 ∨ k = 4 from by omega) with rfl | rfl | rfl | rfl | rfl <;> simp [fourTo] <;> have h0 := four_len a 0 <;> have h1 := four_len a 1 <;> have h2 := four_len a 2 <;> have h3 := four_len a 3 <;> omega
theorem hostText_v4 (h : Gl.Host) (hv : h.v4 = true) : Gl.hostText h = fourTo h.addr 4 := by
  simp [Gl.hostText, hv, fourTo]

theorem and255 (k : IntKind) (hk : k = .i64 ∨ k = .u32) (n : Nat) (hn : n < 4294967296) : bits .and k (n : Int) 255 = ((n % 256 : Nat) : Int) := by
  have h0 : n % 256 < 256 := Nat.mod_lt _ (by omega)
  have key : ∀ m : Nat, 32 ≤ m → (BitVec.ofInt m (n : Int) &&& BitVec.ofInt m ((255 : Nat) : Int)).toNat = n % 256 := by
    intro m hm
    have h1 : 2 ^ 32 ≤ 2 ^ m := Nat.pow_le_pow_right (by omega) hm
    rw [BitVec.toNat_and, BitVec.ofInt_natCast, BitVec.ofInt_natCast, BitVec.toNat_ofNat, BitVec.toNat_ofNat, Nat.mod_eq_of_lt (by omega), Nat.mod_eq_of_lt (by omega)]
    exact Nat.and_two_pow_sub_one_eq_mod n 8
  rcases hk with rfl | rfl
  · show IntKind.i64.wrap ((BitVec.ofInt 64 (n : Int) &&& BitVec.ofInt 64 ((255 : Nat) : Int)).toNat : Int) = _
    rw [key 64 (by omega), IntKind.wrap_i64]
    omega
  · show IntKind.u32.wrap ((BitVec.ofInt 32 (n : Int) &&& BitVec.ofInt 32 ((255 : Nat) : Int)).toNat : Int) = _
    rw [key 32 (by omega), IntKind.wrap_u32]
    omega

set_option maxHeartbeats 1000000 in
theorem ref2_text (h : Gl.Host) (w : World) (hE : Env w) (ha : h.addr < 4294967296) :
    Calls Tryz.prog 95 #[(Value.agg #[(Value.string ⟨((h).name).toArray⟩), (Value.bool (h).v4), (Value.int .u32 ((h).addr : Int))])] w (Ret w ((Value.string ⟨(Gl.hostText h).toArray⟩))) := by
  cases hv : h.v4 with
  | false =>
    have hR : Hid (Gl.hostText h = h.name) := Lib.hid (by simp [Gl.hostText, hv])
    go_enter Tryz.func95, Tryz.ntmps95
    go_wp2
    go_ret
    exact ⟨by rw [hR.out]; rfl, bw_⟩
  | true =>
    have hR := hostText_v4 h hv
    generalize Gl.hostText h = R at *
    replace hR := Lib.hid hR
    generalize h.addr = a at *
    go_enter Tryz.func95, Tryz.ntmps95
    go_wp2
    go_loopw [3, 4] (fun t i wr => ∃ k : Nat, k ≤ 4 ∧ i = .int .i64 k ∧ t = (Value.string ⟨(fourTo a k).toArray⟩) ∧ Below w.heap.size w wr ∧ Blk wr w.heap.size 26 #[(Value.string ⟨(h.name).toArray⟩), Value.bool true, Value.int .u32 (a : Int)]) (fun _ i _ => 4 - (intOf i).toNat)
    case atStart => exact ⟨0, by omega, rfl, rfl, bw_, Blk.new w _ _⟩
    case round =>
      obtain ⟨k, hk, rfl, rfl, hw, hb⟩ := hrel
      have hc := hb.cell
      have ha' : (a : Int) ≤ 4294967295 := by omega
      have hfl := fourTo_len a k ha hk
      by_cases hlt : k < 4
      · rcases (show k = 0 ∨ k = 1 ∨ k = 2 ∨ k = 3 from by omega) with rfl | rfl | rfl | rfl
        · have hand : bits .and .i64 ((a : Int) / 16777216) 255 = (a : Int) / 16777216 % 256 := and255 .i64 (Or.inl rfl) (a / 16777216) (by omega)
          have hf : Hid (Lib.itoa ((a : Int) / 16777216 % 256) = Gl.four a 0) := Lib.hid (by simp [Gl.four])
          have hfl2 := four_len a 0
          go_wp2_with (go_at_call 94; refine (itoa_any _ (by omega) (by omega) _ (hE.below hw)).mono ?_; rintro e w1 ⟨rfl, hb1⟩; rw [hf.out])
          have hbb := hb.below hb1 (by have := hb.lt; exact this)
          go_roundw
          case rel => exact ⟨1, by omega, rfl, by simp [fourTo], hw.trans (hb1.mono hw.size), hbb⟩
          case measure => simp [intOf]
        · have hand : bits .and .i64 ((a : Int) / 65536) 255 = (a : Int) / 65536 % 256 := and255 .i64 (Or.inl rfl) (a / 65536) (by omega)
          have hf : Hid (Lib.itoa ((a : Int) / 65536 % 256) = Gl.four a 1) := Lib.hid (by simp [Gl.four])
          have hfl2 := four_len a 1
          go_wp2_with (go_at_call 94; refine (itoa_any _ (by omega) (by omega) _ (hE.below hw)).mono ?_; rintro e w1 ⟨rfl, hb1⟩; rw [hf.out])
          have hbb := hb.below hb1 (by have := hb.lt; exact this)
          go_roundw
          case rel => exact ⟨2, by omega, rfl, by simp [fourTo], hw.trans (hb1.mono hw.size), hbb⟩
          case measure => simp [intOf]
        · have hand : bits .and .i64 ((a : Int) / 256) 255 = (a : Int) / 256 % 256 := and255 .i64 (Or.inl rfl) (a / 256) (by omega)
          have hf : Hid (Lib.itoa ((a : Int) / 256 % 256) = Gl.four a 2) := Lib.hid (by simp [Gl.four])
          have hfl2 := four_len a 2
          go_wp2_with (go_at_call 94; refine (itoa_any _ (by omega) (by omega) _ (hE.below hw)).mono ?_; rintro e w1 ⟨rfl, hb1⟩; rw [hf.out])
          have hbb := hb.below hb1 (by have := hb.lt; exact this)
          go_roundw
          case rel => exact ⟨3, by omega, rfl, by simp [fourTo], hw.trans (hb1.mono hw.size), hbb⟩
          case measure => simp [intOf]
        · have hand : bits .and .i64 (a : Int) 255 = (a : Int) % 256 := and255 .i64 (Or.inl rfl) (a) (by omega)
          have hf : Hid (Lib.itoa ((a : Int) % 256) = Gl.four a 3) := Lib.hid (by simp [Gl.four])
          have hfl2 := four_len a 3
          go_wp2_with (go_at_call 94; refine (itoa_any _ (by omega) (by omega) _ (hE.below hw)).mono ?_; rintro e w1 ⟨rfl, hb1⟩; rw [hf.out])
          have hbb := hb.below hb1 (by have := hb.lt; exact this)
          go_roundw
          case rel => exact ⟨4, by omega, rfl, by simp [fourTo], hw.trans (hb1.mono hw.size), hbb⟩
          case measure => simp [intOf]
      · obtain rfl : k = 4 := by omega
        go_wp2
        go_ret
        exact ⟨by rw [hR.out]; rfl, hw⟩
def fourCell (a k j : Nat) : Value := if j < k then (Value.string ⟨(Gl.four a j).toArray⟩) else (Value.string ⟨(([] : List UInt8)).toArray⟩)
theorem fourCell_lt {a k j : Nat} (h : j < k) : fourCell a k j = (Value.string ⟨(Gl.four a j).toArray⟩) := if_pos h
theorem fourCell_ge {a k j : Nat} (h : k ≤ j) : fourCell a k j = (Value.string ⟨(([] : List UInt8)).toArray⟩) := if_neg (by omega)

set_option maxHeartbeats 1000000 in
theorem host_text (h : Gl.Host) (w : World) (hE : Env w) (ha : h.addr < 4294967296) :
    Calls Tryz.prog 93 #[(Value.agg #[(Value.string ⟨((h).name).toArray⟩), (Value.bool (h).v4), (Value.int .u32 ((h).addr : Int))])] w (Ret w ((Value.string ⟨(Gl.hostText h).toArray⟩))) := by
  cases hv : h.v4 with
  | false =>
    have hR : Hid (Gl.hostText h = h.name) := Lib.hid (by simp [Gl.hostText, hv])
    go_enter Tryz.func93, Tryz.ntmps93
    go_wp2
    go_ret
    exact ⟨by rw [hR.out]; rfl, bw_⟩
  | true =>
    have hR := hostText_v4 h hv
    have hj : Hid (Lib.join [Gl.four h.addr 0, Gl.four h.addr 1, Gl.four h.addr 2, Gl.four h.addr 3] [46] = fourTo h.addr 4) := Lib.hid (by simp [Lib.join, List.intercalate, fourTo])
    generalize Gl.hostText h = R at *
    replace hR := Lib.hid hR
    generalize h.addr = a at *
    go_enter Tryz.func93, Tryz.ntmps93
    go_wp2
    go_loopw [4, 10] (fun _ i wr => ∃ k : Nat, k ≤ 4 ∧ i = .int .i64 k ∧ Below w.heap.size w wr ∧ Blk wr w.heap.size 26 #[(Value.string ⟨(h.name).toArray⟩), Value.bool true, Value.int .u32 (a : Int)] ∧
      Blk wr (w.heap.size + 1) 186 #[fourCell a k 0, fourCell a k 1, fourCell a k 2, fourCell a k 3]) (fun _ i _ => 4 - (intOf i).toNat)
    case atStart =>
      refine ⟨0, by omega, rfl, bw_, (Blk.new w _ _).alloc _, ?_⟩
      have := Blk.new (w.alloc (Obj.cells #[(Value.string ⟨(h.name).toArray⟩), Value.bool true, Value.int .u32 (a : Int)] 26)) 186 #[fourCell a 0 0, fourCell a 0 1, fourCell a 0 2, fourCell a 0 3]
      rw [World.size_alloc] at this
      exact this
    case round =>
      obtain ⟨k, hk, rfl, hw, b1, b2⟩ := hrel
      have c1 := b1.cell
      have c2 := b2.cell
      have c3 := b2.frozen
      have ha' : (a : Int) ≤ 4294967295 := by omega
      by_cases hlt : k < 4
      · rcases (show k = 0 ∨ k = 1 ∨ k = 2 ∨ k = 3 from by omega) with rfl | rfl | rfl | rfl
        · have hand : bits .and .u32 ((a : Int) / 16777216) 255 = (a : Int) / 16777216 % 256 := and255 .u32 (Or.inr rfl) (a / 16777216) (by omega)
          have hf : Hid (Lib.itoa ((a : Int) / 16777216 % 256) = Gl.four a 0) := Lib.hid (by simp [Gl.four])
          go_wp2_with (go_at_call 94; refine (itoa_any _ (by omega) (by omega) _ (hE.below hw)).mono ?_; rintro e w1 ⟨rfl, hb1⟩; rw [hf.out]; have hbb1 := b1.below hb1 b1.lt; have hbb2 := b2.below hb1 b2.lt; have e1 := hbb1.cell; have e2 := hbb2.cell; have e3 := hbb2.frozen)
          have hset := hbb2.set_ 0 ((Value.string ⟨(Gl.four a 0).toArray⟩))
          have hfar := hbb1.far (p := ⟨w.heap.size + 1, 0, none⟩) (by simp) ((Value.string ⟨(Gl.four a 0).toArray⟩))
          have hbl := (hw.trans (hb1.mono hw.size)).setCell (p := ⟨w.heap.size + 1, 0, none⟩) (by simp) ((Value.string ⟨(Gl.four a 0).toArray⟩))
          go_roundw
          case rel => exact ⟨1, by omega, rfl, hbl, hfar, hset⟩
          case measure => simp [intOf]
        · have hand : bits .and .u32 ((a : Int) / 65536) 255 = (a : Int) / 65536 % 256 := and255 .u32 (Or.inr rfl) (a / 65536) (by omega)
          have hf : Hid (Lib.itoa ((a : Int) / 65536 % 256) = Gl.four a 1) := Lib.hid (by simp [Gl.four])
          go_wp2_with (go_at_call 94; refine (itoa_any _ (by omega) (by omega) _ (hE.below hw)).mono ?_; rintro e w1 ⟨rfl, hb1⟩; rw [hf.out]; have hbb1 := b1.below hb1 b1.lt; have hbb2 := b2.below hb1 b2.lt; have e1 := hbb1.cell; have e2 := hbb2.cell; have e3 := hbb2.frozen)
          have hset := hbb2.set_ 1 ((Value.string ⟨(Gl.four a 1).toArray⟩))
          have hfar := hbb1.far (p := ⟨w.heap.size + 1, 1, none⟩) (by simp) ((Value.string ⟨(Gl.four a 1).toArray⟩))
          have hbl := (hw.trans (hb1.mono hw.size)).setCell (p := ⟨w.heap.size + 1, 1, none⟩) (by simp) ((Value.string ⟨(Gl.four a 1).toArray⟩))
          go_roundw
          case rel => exact ⟨2, by omega, rfl, hbl, hfar, hset⟩
          case measure => simp [intOf]
        · have hand : bits .and .u32 ((a : Int) / 256) 255 = (a : Int) / 256 % 256 := and255 .u32 (Or.inr rfl) (a / 256) (by omega)
          have hf : Hid (Lib.itoa ((a : Int) / 256 % 256) = Gl.four a 2) := Lib.hid (by simp [Gl.four])
          go_wp2_with (go_at_call 94; refine (itoa_any _ (by omega) (by omega) _ (hE.below hw)).mono ?_; rintro e w1 ⟨rfl, hb1⟩; rw [hf.out]; have hbb1 := b1.below hb1 b1.lt; have hbb2 := b2.below hb1 b2.lt; have e1 := hbb1.cell; have e2 := hbb2.cell; have e3 := hbb2.frozen)
          have hset := hbb2.set_ 2 ((Value.string ⟨(Gl.four a 2).toArray⟩))
          have hfar := hbb1.far (p := ⟨w.heap.size + 1, 2, none⟩) (by simp) ((Value.string ⟨(Gl.four a 2).toArray⟩))
          have hbl := (hw.trans (hb1.mono hw.size)).setCell (p := ⟨w.heap.size + 1, 2, none⟩) (by simp) ((Value.string ⟨(Gl.four a 2).toArray⟩))
          go_roundw
          case rel => exact ⟨3, by omega, rfl, hbl, hfar, hset⟩
          case measure => simp [intOf]
        · have hand : bits .and .u32 (a : Int) 255 = (a : Int) % 256 := and255 .u32 (Or.inr rfl) (a) (by omega)
          have hf : Hid (Lib.itoa ((a : Int) % 256) = Gl.four a 3) := Lib.hid (by simp [Gl.four])
          go_wp2_with (go_at_call 94; refine (itoa_any _ (by omega) (by omega) _ (hE.below hw)).mono ?_; rintro e w1 ⟨rfl, hb1⟩; rw [hf.out]; have hbb1 := b1.below hb1 b1.lt; have hbb2 := b2.below hb1 b2.lt; have e1 := hbb1.cell; have e2 := hbb2.cell; have e3 := hbb2.frozen)
          have hset := hbb2.set_ 3 ((Value.string ⟨(Gl.four a 3).toArray⟩))
          have hfar := hbb1.far (p := ⟨w.heap.size + 1, 3, none⟩) (by simp) ((Value.string ⟨(Gl.four a 3).toArray⟩))
          have hbl := (hw.trans (hb1.mono hw.size)).setCell (p := ⟨w.heap.size + 1, 3, none⟩) (by simp) ((Value.string ⟨(Gl.four a 3).toArray⟩))
          go_roundw
          case rel => exact ⟨4, by omega, rfl, hbl, hfar, hset⟩
          case measure => simp [intOf]
      · obtain rfl : k = 4 := by omega
        have hst : Strs wr wr.heap.size (.slice (some ⟨w.heap.size + 1, 0, none⟩) 4 4) [Gl.four a 0, Gl.four a 1, Gl.four a 2, Gl.four a 3] := by
          refine ⟨_, 4, rfl, Nat.le_refl _, by unfold maxLen; omega, fun _ => ⟨w.heap.size + 1, 0, rfl, b2.lt, fun j hj => ?_⟩⟩
          rw [Nat.zero_add, c2]
          rcases (show j = 0 ∨ j = 1 ∨ j = 2 ∨ j = 3 from by simp at hj; omega) with rfl | rfl | rfl | rfl <;> rfl
        have hl := fourTo_len a 4 ha (by omega)
        go_wp2_with (go_at_call 90; refine (join_any _ [46] _ _ hst (by simp) (by rw [hj.out]; omega)).mono ?_; rintro e w1 ⟨rfl, hb1⟩; rw [hj.out])
        have hl2 := hw.trans (hb1.mono hw.size)
        go_wp2
        go_ret
        exact ⟨by rw [hR.out]; rfl, hl2⟩
end Go.Proofs.YtbafofldgkigmaaGreatDoor
