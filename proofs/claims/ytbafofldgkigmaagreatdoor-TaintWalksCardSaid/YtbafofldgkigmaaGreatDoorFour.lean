/- '==' on URLs. Rows of texts held against one another: slices.Equal, glacisref01.Texts. Sites of hosts: the plain functions; the reference's 'ends'. host.Site's 'try': one suffix. host.Site. glacisref02.Site. Origins: the plain functions. origin.own: a map that the call makes, of two texts; and what is looked up in it. '==' on origins. Origins: are two the same, and of one site? Of the program and of the reference. Sites of origins: of the program and of the reference. -/
import Derived.Test.YtbafofldgkigmaaGreatDoorOne
import Derived.Laws.StructEq
import Derived.Test.YtbafofldgkigmaaGreatDoorTwo
import Derived.Deep.RegionHeld3
import Derived.Test.YtbafofldgkigmaaGreatDoorThree
namespace Go.Proofs.YtbafofldgkigmaaGreatDoor
open Go.RowKit
theorem beq_mk (a b : List UInt8) : ((⟨a.toArray⟩ : ByteArray).toList == (⟨b.toArray⟩ : ByteArray).toList) = (a == b) := by
  rw [ByteArray.toList_eq, ByteArray.toList_eq]
section
variable (w : World) (a1 b1 f1 h1 i1 a2 b2 f2 h2 i2 : List UInt8) (c1 c2 g1 g2 : Bool) (d1 d2 e1 e2 : Int)
set_option maxHeartbeats 2000000 in
theorem run_eq_url : (Op.equalIn 10000 28 (.agg #[(.string ⟨(a1).toArray⟩), (.string ⟨(b1).toArray⟩), .bool c1, .int .u32 d1, .int .i64 e1, (.string ⟨(f1).toArray⟩), .bool g1, (.string ⟨(h1).toArray⟩), (.string ⟨(i1).toArray⟩)]) (.agg #[(.string ⟨(a2).toArray⟩), (.string ⟨(b2).toArray⟩), .bool c2, .int .u32 d2, .int .i64 e2, (.string ⟨(f2).toArray⟩), .bool g2, (.string ⟨(h2).toArray⟩), (.string ⟨(i2).toArray⟩)])).run Tryz.prog w = .ok ((a1 == a2) && (b1 == b2) && (c1 == c2) && (d1 == d2) && (e1 == e2) && (f1 == f2) && (g1 == g2) && (h1 == h2) && (i1 == i2)) w := by
  rw [show (10000 : Nat) = 9999 + 1 from rfl, run_equalIn_agg w 9999 28 _ _ (by kernel_rfl) (by kernel_rfl)]
  simp only [Program.fieldsOf, Tryz.underlying28]
  have hh : ∀ (x y : Array Value), (Op.equalIn 9999 26 (.agg x) (.agg y)).run Tryz.prog w = (Op.eqFields 9998 x y ((Tryz.prog).fieldsOf 26).toList).run Tryz.prog w := fun x y => run_equalIn_agg w 9998 26 x y (by kernel_rfl) (by kernel_rfl)
  go_simp
  by_cases q1 : a1 = a2
  case neg => simp [q1]
  by_cases q2 : b1 = b2
  case neg => simp [q2]
  by_cases q3 : c1 = c2
  case neg => simp [q3]
  by_cases q4 : d1 = d2
  case neg => simp [q4]
  by_cases q5 : e1 = e2
  case neg => simp [q5]
  by_cases q6 : f1 = f2
  case neg => simp [q6]
  by_cases q7 : g1 = g2
  case neg => simp [q7]
  by_cases q8 : h1 = h2
  case neg => simp [q8]
  by_cases q9 : i1 = i2 <;> simp [q1, q2, q3, q4, q5, q6, q7, q8, q9]
@[go_sem] theorem run_eql_url : (binOp .eql 28 (.agg #[(.string ⟨(a1).toArray⟩), (.string ⟨(b1).toArray⟩), .bool c1, .int .u32 d1, .int .i64 e1, (.string ⟨(f1).toArray⟩), .bool g1, (.string ⟨(h1).toArray⟩), (.string ⟨(i1).toArray⟩)]) (.agg #[(.string ⟨(a2).toArray⟩), (.string ⟨(b2).toArray⟩), .bool c2, .int .u32 d2, .int .i64 e2, (.string ⟨(f2).toArray⟩), .bool g2, (.string ⟨(h2).toArray⟩), (.string ⟨(i2).toArray⟩)])).run Tryz.prog w = .ok (.bool ((a1 == a2) && (b1 == b2) && (c1 == c2) && (d1 == d2) && (e1 == e2) && (f1 == f2) && (g1 == g2) && (h1 == h2) && (i1 == i2))) w := by
  rw [run_eql_struct, run_eq_url]; rfl
@[go_sem] theorem run_neq_url : (binOp .neq 28 (.agg #[(.string ⟨(a1).toArray⟩), (.string ⟨(b1).toArray⟩), .bool c1, .int .u32 d1, .int .i64 e1, (.string ⟨(f1).toArray⟩), .bool g1, (.string ⟨(h1).toArray⟩), (.string ⟨(i1).toArray⟩)]) (.agg #[(.string ⟨(a2).toArray⟩), (.string ⟨(b2).toArray⟩), .bool c2, .int .u32 d2, .int .i64 e2, (.string ⟨(f2).toArray⟩), .bool g2, (.string ⟨(h2).toArray⟩), (.string ⟨(i2).toArray⟩)])).run Tryz.prog w = .ok (.bool (!((a1 == a2) && (b1 == b2) && (c1 == c2) && (d1 == d2) && (e1 == e2) && (f1 == f2) && (g1 == g2) && (h1 == h2) && (i1 == i2)))) w := by
  rw [run_neq_struct, run_eq_url]; rfl
@[go_sem] theorem run_guard_url (op : BinOp) (x y : Operand) (xs ys : Array Value) : (eqGuard op 28 x y (.agg xs) (.agg ys)).run Tryz.prog w = .ok () w := run_eqGuard_agg w op 28 x y xs ys (by kernel_rfl)
end
end Go.Proofs.YtbafofldgkigmaaGreatDoor
namespace Go.Proofs.YtbafofldgkigmaaGreatDoor
open Go.RowKit
attribute [local irreducible] Calls
theorem Strs.cells {w : World} {B : Nat} {v : Value} {L : List (List UInt8)} (h : Strs w B v L) (k : Nat) (hk : k < L.length) : ∃ b o c, v = .slice (some ⟨b, o, none⟩) L.length c ∧ b < B ∧ ∀ j, (h : j < L.length) → w.cell? ⟨b, o + j, none⟩ = some (.string ⟨(L[j]).toArray⟩) := by
  obtain ⟨A, c, rfl, _, _, h3⟩ := h
  obtain ⟨b, o, rfl, hB, hc⟩ := h3 (by omega)
  exact ⟨b, o, c, rfl, hB, hc⟩
theorem drop_eq {L M : List (List UInt8)} {k : Nat} (h1 : k < L.length) (h2 : k < M.length) : (L.drop k = M.drop k) ↔ (L[k] = M[k] ∧ L.drop (k + 1) = M.drop (k + 1)) := by
  rw [drop_consL h1, drop_consL h2, List.cons.injEq]

set_option maxHeartbeats 1000000 in
theorem ref1_texts (v v' : Value) (L M : List (List UInt8)) (w : World) (B B' : Nat) (hv : Strs w B v L) (hv' : Strs w B' v' M) (hl : L.length ≤ 281474976710656) (hl' : M.length ≤ 281474976710656) :
    Calls Tryz.prog 211 #[v, v'] w (Ret w (.bool (L == M))) := by
  generalize hR : (L == M) = R
  replace hR := Lib.hid hR
  have H := Lib.hid hv
  have H' := Lib.hid hv'
  obtain ⟨A, c, rfl, hc1, hc2, _⟩ := hv
  obtain ⟨A', c', rfl, hc1', hc2', _⟩ := hv'
  by_cases hlen : L.length = M.length
  · have hne : ((L.length : Int) != (M.length : Int)) = false := by rw [hlen]; simp
    replace hR : Hid ((decide (L.drop 0 = M.drop 0)) = R) := Lib.hid (by rw [← hR.out, Bool.eq_iff_iff]; simp)
    have hlen' := hlen
    replace hlen := Lib.hid hlen'
    clear hlen'
    go_enter Tryz.func211, Tryz.ntmps211
    go_wp2
    go_loopw [5] (fun i wr => ∃ k : Nat, k ≤ L.length ∧ i = .int .i64 k ∧ Below w.heap.size w wr ∧ (∀ p, wr.cell? p = w.cell? p) ∧ Hid ((decide (L.drop k = M.drop k)) = R)) (fun i _ => L.length - (intOf i).toNat)
    case atStart => exact ⟨0, Nat.zero_le _, rfl, Below.refl _ _, fun _ => rfl, hR⟩
    case round =>
      obtain ⟨k, hk, rfl, hw, hce, hr⟩ := hrel
      by_cases hlt : k < L.length
      · have hkM : k < M.length := by have := hlen.out; omega
        obtain ⟨b, o, d, he, hB, hcell⟩ := H.out.cells k hlt
        obtain ⟨b', o', d', he', hB', hcell'⟩ := H'.out.cells k hkM
        injection he with he1 he2 he3
        injection he' with he1' he2' he3'
        subst he1 he3 he1' he3'
        have hck := (hce _).trans (hcell k hlt)
        have hck' := (hce _).trans (hcell' k hkM)
        replace hce := Lib.hid hce
        clear hcell hcell'
        by_cases hx : L[k] = M[k]
        · have hf : Hid ((decide (L.drop (k + 1) = M.drop (k + 1))) = R) := Lib.hid (by rw [← hr.out, Bool.eq_iff_iff]; simp only [decide_eq_true_eq]; rw [drop_eq hlt hkM]; simp [hx])
          have hb : (L[k] == M[k]) = true := by rw [hx]; simp
          clear hx hr
          go_wp2
          go_quiet (fail)
          go_wp2
          go_roundw
          case rel => exact ⟨k + 1, by omega, by go_num, below_drewN hw _, hce.out, hf⟩
          case measure => simp [intOf]; omega
        · have hf : Hid (R = false) := Lib.hid (by rw [← hr.out, decide_eq_false_iff_not, drop_eq hlt hkM]; exact fun h => hx h.1)
          have hb : (L[k] == M[k]) = false := by rw [beq_eq_false_iff_ne]; exact hx
          clear hx hr
          go_wp2
          go_quiet (fail)
          go_wp2
          go_ret
          exact ⟨by rw [hf.out] <;> rfl, below_drewN hw _⟩
      · have hf : Hid (R = true) := Lib.hid (by have := hlen.out; rw [← hr.out, List.drop_eq_nil_of_le (by omega), List.drop_eq_nil_of_le (by omega)]; simp)
        go_wp2
        go_ret
        exact ⟨by rw [hf.out] <;> rfl, hw⟩
  · have hne : ((L.length : Int) != (M.length : Int)) = true := by rw [bne_iff_ne]; omega
    have hf : Hid (R = false) := Lib.hid (by rw [← hR.out, beq_eq_false_iff_ne]; rintro rfl; exact hlen rfl)
    go_enter Tryz.func211, Tryz.ntmps211
    go_wp2
    go_ret
    exact ⟨by rw [hf.out] <;> rfl, Below.refl _ _⟩

set_option maxHeartbeats 1000000 in
theorem slices_equal (v v' : Value) (L M : List (List UInt8)) (w : World) (B B' : Nat) (hv : Strs w B v L) (hv' : Strs w B' v' M) (hl : L.length ≤ 281474976710656) (hl' : M.length ≤ 281474976710656) :
    Calls Tryz.prog 138 #[v, v'] w (Ret w (.bool (L == M))) := by
  generalize hR : (L == M) = R
  replace hR := Lib.hid hR
  have H := Lib.hid hv
  have H' := Lib.hid hv'
  obtain ⟨A, c, rfl, hc1, hc2, _⟩ := hv
  obtain ⟨A', c', rfl, hc1', hc2', _⟩ := hv'
  by_cases hlen : L.length = M.length
  · have hne : ((L.length : Int) != (M.length : Int)) = false := by rw [hlen]; simp
    replace hR : Hid ((decide (L.drop 0 = M.drop 0)) = R) := Lib.hid (by rw [← hR.out, Bool.eq_iff_iff]; simp)
    have hlen' := hlen
    replace hlen := Lib.hid hlen'
    clear hlen'
    go_enter Tryz.func138, Tryz.ntmps138
    go_wp2
    go_loopw [13] (fun i wr => ∃ k : Nat, k ≤ L.length ∧ i = .int .i64 k ∧ Below w.heap.size w wr ∧ (∀ p, wr.cell? p = w.cell? p) ∧ Hid ((decide (L.drop k = M.drop k)) = R)) (fun i _ => L.length - (intOf i).toNat)
    case atStart => exact ⟨0, Nat.zero_le _, rfl, Below.refl _ _, fun _ => rfl, hR⟩
    case round =>
      obtain ⟨k, hk, rfl, hw, hce, hr⟩ := hrel
      by_cases hlt : k < L.length
      · have hkM : k < M.length := by have := hlen.out; omega
        obtain ⟨b, o, d, he, hB, hcell⟩ := H.out.cells k hlt
        obtain ⟨b', o', d', he', hB', hcell'⟩ := H'.out.cells k hkM
        injection he with he1 he2 he3
        injection he' with he1' he2' he3'
        subst he1 he3 he1' he3'
        have hck := (hce _).trans (hcell k hlt)
        have hck' := (hce _).trans (hcell' k hkM)
        replace hce := Lib.hid hce
        clear hcell hcell'
        by_cases hx : L[k] = M[k]
        · have hf : Hid ((decide (L.drop (k + 1) = M.drop (k + 1))) = R) := Lib.hid (by rw [← hr.out, Bool.eq_iff_iff]; simp only [decide_eq_true_eq]; rw [drop_eq hlt hkM]; simp [hx])
          have hb : (L[k] == M[k]) = true := by rw [hx]; simp
          clear hx hr
          go_wp2
          go_quiet (fail)
          go_wp2
          go_roundw
          case rel => exact ⟨k + 1, by omega, by go_num, below_drewN hw _, hce.out, hf⟩
          case measure => simp [intOf]; omega
        · have hf : Hid (R = false) := Lib.hid (by rw [← hr.out, decide_eq_false_iff_not, drop_eq hlt hkM]; exact fun h => hx h.1)
          have hb : (L[k] == M[k]) = false := by rw [beq_eq_false_iff_ne]; exact hx
          clear hx hr
          go_wp2
          go_quiet (fail)
          go_wp2
          go_ret
          exact ⟨by rw [hf.out] <;> rfl, below_drewN hw _⟩
      · have hf : Hid (R = true) := Lib.hid (by have := hlen.out; rw [← hr.out, List.drop_eq_nil_of_le (by omega), List.drop_eq_nil_of_le (by omega)]; simp)
        go_wp2
        go_ret
        exact ⟨by rw [hf.out] <;> rfl, hw⟩
  · have hne : ((L.length : Int) != (M.length : Int)) = true := by rw [bne_iff_ne]; omega
    have hf : Hid (R = false) := Lib.hid (by rw [← hR.out, beq_eq_false_iff_ne]; rintro rfl; exact hlen rfl)
    go_enter Tryz.func138, Tryz.ntmps138
    go_wp2
    go_ret
    exact ⟨by rw [hf.out] <;> rfl, Below.refl _ _⟩
end Go.Proofs.YtbafofldgkigmaaGreatDoor
namespace Go.Proofs.YtbafofldgkigmaaGreatDoor
open Go.RowKit
namespace Gl
/-- Does a row of texts end in another? -/
def endsIn (l p : List Bs) : Bool := decide (p.length ≤ l.length) && (l.drop (l.length - p.length) == p)
/-- The length of the longest suffix that a name ends in, b being the longest so far. -/
def best (l : List Bs) : Nat → List Bs → Nat
  | b, [] => b
  | b, s :: r => best l (if endsIn l (split 46 s) then max b (split 46 s).length else b) r
def siteParts (l : List Bs) (b : Nat) : List Bs := l.drop (l.length - max b 1 - 1)
def siteOf (h : Host) (suf : List Bs) : Bs := if h.v4 then hostText h else Lib.join (siteParts (split 46 h.name) (best (split 46 h.name) 0 suf)) [46]
end Gl
theorem endsIn_len {l p : List Gl.Bs} (h : Gl.endsIn l p = true) : p.length ≤ l.length := by
  unfold Gl.endsIn at h; simp at h; exact h.1
theorem best_le (l : List Gl.Bs) (S : List Gl.Bs) : ∀ b, b ≤ l.length → Gl.best l b S ≤ l.length := by
  induction S with
  | nil => intro b h; exact h
  | cons s r ih =>
    intro b h
    unfold Gl.best
    apply ih
    split
    · rename_i he; have := endsIn_len he; omega
    · exact h
theorem Strs.tail {w : World} {B b o n c : Nat} {L : List (List UInt8)} (h : Strs w B (.slice (some ⟨b, o, none⟩) n c) L) (k : Nat) (hk : k < L.length) : Strs w B (.slice (some ⟨b, o + k, none⟩) (L.length - k) (c - k)) (L.drop k) := by
  obtain ⟨A, c', he, h1, h2, h3⟩ := h
  injection he with he1 he2 he3
  subst he1 he2 he3
  obtain ⟨b', o', hA, hB, hc⟩ := h3 (by omega)
  injection hA with hA
  injection hA with e1 e2
  subst e1 e2
  refine ⟨_, c - k, by rw [List.length_drop], by rw [List.length_drop]; omega, by omega, fun _ => ⟨b, o + k, rfl, hB, fun j hj => ?_⟩⟩
  rw [List.length_drop] at hj
  have := hc (k + j) (by omega)
  rw [List.getElem_drop, Nat.add_assoc]
  exact this
attribute [local irreducible] Calls
set_option maxHeartbeats 1000000 in
theorem ref2_ends (v v' : Value) (L M : List (List UInt8)) (w : World) (B B' : Nat) (hv : Strs w B v L) (hv' : Strs w B' v' M) (h0 : 0 < M.length) (hl : L.length ≤ 281474976710656) (hl' : M.length ≤ 281474976710656) :
    Calls Tryz.prog 192 #[v, v'] w (Ret w (.bool (Gl.endsIn L M))) := by
  generalize hR : Gl.endsIn L M = R
  unfold Gl.endsIn at hR
  replace hR := Lib.hid hR
  by_cases hlen : M.length ≤ L.length
  · have hL0 : 0 < L.length := by omega
    obtain ⟨b, o, c, rfl, hB, _⟩ := hv.cells 0 hL0
    have hc : L.length ≤ c ∧ c ≤ maxLen := by
      obtain ⟨_, _, he, h1, h2, _⟩ := hv
      injection he with _ _ he
      rw [he]; exact ⟨h1, h2⟩
    obtain ⟨hc1, hc2⟩ := hc
    unfold maxLen at hc2
    have hR2 : Hid ((L.drop (L.length - M.length) == M) = R) := Lib.hid (by rw [← hR.out]; simp [hlen])
    have hs := hv.tail (L.length - M.length) (by omega)
    have hte := ref1_texts _ v' (L.drop (L.length - M.length)) M w B B' hs hv' (by rw [List.length_drop]; omega) hl'
    rw [hR2.out] at hte
    have e1 : L.length - (L.length - M.length) = M.length := by omega
    rw [e1] at hte
    obtain ⟨A', c', rfl, hc1', hc2', _⟩ := hv'
    clear hs hv
    replace hte := Lib.hid hte
    go_enter Tryz.func192, Tryz.ntmps192
    go_wp2_with (go_at_call 211; refine hte.out.mono ?_; rintro e w1 ⟨rfl, hb⟩)
    go_ret
    exact ⟨rfl, hb⟩
  · have hf : Hid (R = false) := Lib.hid (by rw [← hR.out]; simp; omega)
    obtain ⟨A, c, rfl, hc1, hc2, _⟩ := hv
    obtain ⟨A', c', rfl, hc1', hc2', _⟩ := hv'
    go_enter Tryz.func192, Tryz.ntmps192
    go_wp2
    go_ret
    exact ⟨by rw [hf.out] <;> rfl, Below.refl _ _⟩
end Go.Proofs.YtbafofldgkigmaaGreatDoor
namespace Go.Proofs.YtbafofldgkigmaaGreatDoor
open Go.RowKit
attribute [local irreducible] Calls
/-- Behind a call of 'try': below the block gb nothing has turned, and that holds the longest so far. -/
structure SiteInv (wA : World) (gb b : Nat) (w : World) : Prop where
  below : Below gb wA w
  lt : gb < w.heap.size
  cell : w.cell? ⟨gb, 0, none⟩ = some (.int .i64 (b : Int))
  free : w.frozen? ⟨gb, 0, none⟩ = false
theorem SiteInv.more {wA : World} {gb b : Nat} {w w' : World} (h : SiteInv wA gb b w) (hb : Below w.heap.size w w') : SiteInv wA gb b w' :=
  ⟨h.below.trans (hb.mono (Nat.le_of_lt h.lt)), Nat.lt_of_lt_of_le h.lt hb.size, (hb.cell (p := ⟨gb, 0, none⟩) h.lt).trans h.cell, (hb.frozen (p := ⟨gb, 0, none⟩) h.lt).trans h.free⟩
theorem SiteInv.set {wA : World} {gb b : Nat} {w : World} (h : SiteInv wA gb b w) (b' : Nat) : SiteInv wA gb b' (w.setCell ⟨gb, 0, none⟩ (.int .i64 (b' : Int))) :=
  ⟨h.below.setCell (Nat.le_refl _) _, by simpa using h.lt, World.cell?_setCell_same' _ _ _ (by rw [h.cell]; rfl), by rw [World.frozen?_setCell]; exact h.free⟩
set_option maxHeartbeats 2000000 in
theorem host_try (s : List UInt8) (wA : World) (gl gb b B : Nat) (v : Value) (L : List (List UInt8)) (w : World) (hg : gl < gb) (hB : B ≤ gb) (hcl : wA.cell? ⟨gl, 0, none⟩ = some v) (hv : Strs wA B v L)
    (hL0 : 0 < L.length) (hL : L.length ≤ 1099511627776) (hs : s.length ≤ 1099511627774) (hI : SiteInv wA gb b w) :
    Calls Tryz.prog 137 #[(Value.string ⟨(s).toArray⟩), .pointer (some ⟨gl, 0, none⟩), .pointer (some ⟨gb, 0, none⟩)] w
      (fun e w' => e = .returned (.tuple #[]) ∧ SiteInv wA gb (if Gl.endsIn L (Gl.split 46 s) then max b (Gl.split 46 s).length else b) w') := by
  have hpos := split_pos 46 s
  have hsl := split_len 46 s
  have hsp : ∀ W, Calls Tryz.prog 134 #[(Value.string ⟨(s).toArray⟩), .int .u8 46] W (RetStrs W (Gl.split 46 s)) := fun W => octet_split s 46 W hs
  generalize hM : Gl.split 46 s = M at *
  clear hM
  generalize hR : (if Gl.endsIn L M = true then max b M.length else b) = R
  replace hR := Lib.hid hR
  have hvw : Strs w B v L := hv.keep (hI.below.mono hB)
  obtain ⟨lb, lo, lc, rfl, hlB, _⟩ := hvw.cells 0 hL0
  have hlc : L.length ≤ lc ∧ lc ≤ maxLen := by
    obtain ⟨_, _, he, h1, h2, _⟩ := hvw
    injection he with _ _ he
    rw [he]; exact ⟨h1, h2⟩
  obtain ⟨hlc1, hlc2⟩ := hlc
  unfold maxLen at hlc2
  have hcw : w.cell? ⟨gl, 0, none⟩ = some (.slice (some ⟨lb, lo, none⟩) L.length lc) := (hI.below.cell (p := ⟨gl, 0, none⟩) hg).trans hcl
  have hgw : gl < w.heap.size := Nat.lt_trans hg hI.lt
  have hbw := hI.cell
  have hbl := hI.lt
  replace hsp := Lib.hid hsp
  go_enter Tryz.func137, Tryz.ntmps137
  go_upto_region 0 with fail
  go_cut [4] from 5 (fun p w' => ∃ b1 c1, p = .slice (some ⟨b1, 0, none⟩) M.length c1 ∧ M.length ≤ c1 ∧ c1 ≤ maxLen ∧ Below w.heap.size w w' ∧ Strs w' w'.heap.size p M)
  case first =>
    go_wp2_with (go_at_call 134; refine ( hsp.out _).mono ?_; rintro e w1 ⟨v, rfl, hst, hb⟩; obtain ⟨hc, hfz⟩ := bcell hb; have hz := hb.size; (try simp at hz); (try have hz0 := lt_ hb w.heap.size); (try have hz1 := lt_ hb (w.heap.size + 1)); (try have hz2 := lt_ hb (w.heap.size + 2)); (try have hz3 := lt_ hb (w.heap.size + 3)); obtain ⟨lb, lc, hlc, hlm, hlB, hlv, _, hlcell⟩ := hst.at_; obtain rfl := hlv ( hpos); obtain ⟨hlb, hlB⟩ := hlB ( hpos))
    go_meet
    case rel => exact ⟨_, _, rfl, by assumption, by assumption, bw_, hst.strs⟩
  case rest =>
    obtain ⟨b1, c1, rfl, h1, h2, hw, hsM⟩ := hcut
    have hIc := hI.more hw
    have hcw' : wc.cell? ⟨gl, 0, none⟩ = some (.slice (some ⟨lb, lo, none⟩) L.length lc) := (hw.cell (p := ⟨gl, 0, none⟩) hgw).trans hcw
    have hbw' := hIc.cell
    have hbl' := hIc.lt
    have hfr := hIc.free
    have hvc := hvw.keep (hw.mono (show B ≤ w.heap.size by omega))
    clear hcw hbw hw hcl hv hvw
    unfold maxLen at h2
    by_cases hlen : M.length ≤ L.length
    · have hse := hvc.tail (L.length - M.length) (by omega)
      have hte := slices_equal _ _ (L.drop (L.length - M.length)) M wc B wc.heap.size hse hsM (by rw [List.length_drop]; omega) (by omega)
      have hq : Gl.endsIn L M = (L.drop (L.length - M.length) == M) := by unfold Gl.endsIn; simp [hlen]
      generalize (L.drop (L.length - M.length) == M) = q at *
      rw [hq] at hR
      replace hte := Lib.hid hte
      clear hse hsM hq hvc
      cases q with
      | false =>
        have hf : Hid (R = b) := Lib.hid (by rw [← hR.out]; rfl)
        go_wp2_with (go_at_call 138; refine hte.out.mono ?_; rintro e w1 ⟨rfl, hb1⟩)
        go_end0
        exact ⟨rfl, by rw [hf.out]; exact hIc.more hb1⟩
      | true =>
        have hf : Hid (R = max b M.length) := Lib.hid (by rw [← hR.out]; rfl)
        go_wp2_with (go_at_call 138; refine hte.out.mono ?_; rintro e w1 ⟨rfl, hb1⟩; have hbx := (hIc.more hb1).cell; have hfx := (hIc.more hb1).free)
        go_end0
        refine ⟨rfl, ?_⟩
        have := (hIc.more hb1).set R
        rw [hf.out, show ((max b M.length : Nat) : Int) = max (b : Int) (M.length : Int) by omega] at this
        rw [hf.out]
        exact this
    · have hf : Hid (R = b) := Lib.hid (by rw [← hR.out, if_neg]; intro h; exact hlen (endsIn_len h))
      go_wp2_with fail
      go_end0
      exact ⟨rfl, by rw [hf.out]; exact hIc⟩
end Go.Proofs.YtbafofldgkigmaaGreatDoor
namespace Go.Proofs.YtbafofldgkigmaaGreatDoor
open Go.RowKit
attribute [local irreducible] Calls
theorem join_len (L : List (List UInt8)) (c : UInt8) : (Lib.join L [c]).length ≤ (Gl.slashed L).length := by
  have : ∀ (L : List (List UInt8)), (Lib.join L [c]).length + 1 ≤ (Gl.slashed L).length ∨ L = [] := by
    intro L
    induction L with
    | nil => exact Or.inr rfl
    | cons a r ih =>
      left
      cases r with
      | nil => simp [Lib.join, Gl.slashed, List.intercalate]
      | cons b s =>
        rcases ih with ih | ih
        · rw [slashed_cons]
          simp [Lib.join, List.intercalate] at ih ⊢
          omega
        · cases ih
  rcases this L with h | rfl
  · omega
  · simp [Lib.join, List.intercalate]
theorem slashed_drop (L : List (List UInt8)) (k : Nat) : (Gl.slashed (L.drop k)).length ≤ (Gl.slashed L).length := by
  conv => rhs; rw [← List.take_append_drop k L]
  rw [slashed_append]
  simp
set_option maxHeartbeats 2000000 in
theorem host_site (h : Gl.Host) (v : Value) (S : List (List UInt8)) (w : World) (hE : Env w) (ha : h.addr < 4294967296) (hn : h.name.length ≤ 1000000) (hv : Strs w w.heap.size v S) (hS : S.length ≤ 1000000) (hSl : ∀ s ∈ S, s.length ≤ 1000000) :
    Calls Tryz.prog 116 #[(Value.agg #[(Value.string ⟨((h).name).toArray⟩), (Value.bool (h).v4), (Value.int .u32 ((h).addr : Int))]), v] w (Ret w ((Value.string ⟨(Gl.siteOf h S).toArray⟩))) := by
  cases hv4 : h.v4 with
  | true =>
    rw [show Gl.siteOf h S = Gl.hostText h by unfold Gl.siteOf; rw [if_pos hv4]]
    have ht : ∀ W, Below w.heap.size w W → Calls Tryz.prog 93 #[(Value.agg #[(Value.string ⟨((h).name).toArray⟩), (Value.bool (h).v4), (Value.int .u32 ((h).addr : Int))])] W (Ret W ((Value.string ⟨(Gl.hostText h).toArray⟩))) := fun W hW => host_text h W (hE.below hW) ha
    rw [hv4] at ht
    generalize Gl.hostText h = t at *
    replace ht := Lib.hid ht
    obtain ⟨A, c, rfl, _⟩ := hv
    go_enter Tryz.func116, Tryz.ntmps116
    go_wp2_with (go_at_call 93; refine (ht.out _ (bw_)).mono ?_; rintro e w1 ⟨rfl, hb⟩; obtain ⟨hc, hfz⟩ := bcell hb; have hz := hb.size; (try simp at hz); (try have hz0 := lt_ hb w.heap.size); (try have hz1 := lt_ hb (w.heap.size + 1)); (try have hz2 := lt_ hb (w.heap.size + 2)); (try have hz3 := lt_ hb (w.heap.size + 3)); (try have hcA := fun o => hc w.heap.size o sz_); (try have hcB := fun o => hc (w.heap.size + 1) o sz_))
    go_ret
    exact ⟨by rfl, bw_⟩
  | false =>
    have hR : Gl.siteOf h S = Lib.join (Gl.siteParts (Gl.split 46 h.name) (Gl.best (Gl.split 46 h.name) 0 S)) [46] := by unfold Gl.siteOf; rw [if_neg (by rw [hv4]; simp)]
    generalize Gl.siteOf h S = R at *
    have hpos := split_pos 46 h.name
    have hsl := split_len 46 h.name
    have hlen := slashed_split 46 h.name
    have hsp : ∀ W, Calls Tryz.prog 134 #[(Value.string ⟨(h.name).toArray⟩), .int .u8 46] W (RetStrs W (Gl.split 46 h.name)) := fun W => octet_split h.name 46 W (by omega)
    generalize hL : Gl.split 46 h.name = L at *
    clear hL
    generalize hB : Gl.best L 0 S = BB at *
    have hBB := best_le L S 0 (by omega)
    rw [hB] at hBB
    replace hB := Lib.hid hB
    replace hsp := Lib.hid hsp
    replace hR := Lib.hid hR
    have H := Lib.hid hv
    obtain ⟨A, c, rfl, hc1, hc2, _⟩ := hv
    unfold maxLen at hc2
    go_enter Tryz.func116, Tryz.ntmps116
    go_wp2_with (go_at_call 134; refine ( hsp.out _).mono ?_; rintro e w1 ⟨v, rfl, hst, hb⟩; obtain ⟨hc, hfz⟩ := bcell hb; have hz := hb.size; (try simp at hz); (try have hz0 := lt_ hb w.heap.size); (try have hz1 := lt_ hb (w.heap.size + 1)); (try have hz2 := lt_ hb (w.heap.size + 2)); (try have hz3 := lt_ hb (w.heap.size + 3)); obtain ⟨lb, lc, hlc, hlm, hlB, hlv, _, hlcell⟩ := hst.at_; obtain rfl := hlv ( hpos); obtain ⟨hlb, hlB⟩ := hlB ( hpos))
    have hlB1 := hlB
    have hlb1 := hlb
    rw [World.size_alloc] at hlb1
    have hsz := hb.size
    rw [World.size_alloc] at hsz
    have hw1 : Below w.heap.size w w1 := bw_
    generalize hwA : ((w1.alloc (Obj.cells #[Value.slice (some ⟨lb, 0, none⟩) L.length lc] 32)).alloc (Obj.cells #[Value.int .i64 0] 3)) = wA
    have hA1 : wA.heap.size = w1.heap.size + 2 := by rw [← hwA]; simp
    have hA2 : wA.cell? ⟨w1.heap.size, 0, none⟩ = some (Value.slice (some ⟨lb, 0, none⟩) L.length lc) := by rw [← hwA]; clear hwA; go_simp
    have hA3 : wA.cell? ⟨w1.heap.size + 1, 0, none⟩ = some (.int .i64 0) := by rw [← hwA]; clear hwA; go_simp
    have hA4 : wA.frozen? ⟨w1.heap.size + 1, 0, none⟩ = false := by rw [← hwA]; clear hwA; go_simp
    have hA5 : Below w1.heap.size w1 wA := by rw [← hwA]; exact ((Below.refl _ _).alloc (Nat.le_refl _) _).alloc (by simp) _
    have hA6 : Strs wA w1.heap.size (Value.slice (some ⟨lb, 0, none⟩) L.length lc) L := hst.strs.keep hA5
    have hA7 : Below w.heap.size w wA := hw1.trans (hA5.mono hw1.size)
    have hI0 : SiteInv wA (w1.heap.size + 1) 0 wA := ⟨Below.refl _ _, by omega, hA3, hA4⟩
    clear hwA hc hfz hb hst hlcell
    go_loopw [20] (fun i wr => ∃ k b : Nat, k ≤ S.length ∧ i = .int .i64 k ∧ b ≤ L.length ∧ SiteInv wA (w1.heap.size + 1) b wr ∧ Hid (Gl.best L b (S.drop k) = BB)) (fun i _ => S.length - (intOf i).toNat)
    case atStart => exact ⟨0, 0, Nat.zero_le _, rfl, Nat.zero_le _, hI0, hB⟩
    case round =>
      obtain ⟨k, b, hk, rfl, hbl, hI, hr⟩ := hrel
      have hwr : Below w.heap.size w wr := hA7.trans (hI.below.mono (by have := hw1.size; omega))
      by_cases hlt : k < S.length
      · obtain ⟨sb, so, sd, he, hsB, hcell⟩ := H.out.cells k hlt
        injection he with he1 he2 he3
        subst he1 he3
        have hck := (hwr.cell (p := ⟨sb, so + k, none⟩) hsB).trans (hcell k hlt)
        clear hcell
        have htry := host_try (S[k]) wA w1.heap.size (w1.heap.size + 1) b w1.heap.size _ L wr (by omega) (by omega) hA2 hA6 hpos (by omega) (by have := hSl S[k] (List.getElem_mem hlt); omega) hI
        generalize hb2 : (if Gl.endsIn L (Gl.split 46 S[k]) = true then max b (Gl.split 46 S[k]).length else b) = b2 at htry
        have hb2l : b2 ≤ L.length := by
          rw [← hb2]
          split
          · rename_i he; have := endsIn_len he; omega
          · exact hbl
        have hf : Hid (Gl.best L b2 (S.drop (k + 1)) = BB) := Lib.hid (by rw [← hr.out, drop_consL hlt, ← hb2]; rfl)
        clear hr hb2
        replace htry := Lib.hid htry
        go_wp2_with (go_at_call 137; refine htry.out.mono ?_; rintro e w2 ⟨rfl, hI2⟩)
        go_roundw
        case rel => exact ⟨k + 1, b2, by omega, by go_num, hb2l, hI2, hf⟩
        case measure => simp [intOf]; omega
      · have hf : Hid (BB = b) := Lib.hid (by rw [← hr.out, List.drop_eq_nil_of_le (by omega)]; rfl)
        have hbc := hI.cell
        have hlc2 := (hI.below.cell (p := ⟨w1.heap.size, 0, none⟩) (by simp)).trans hA2
        unfold maxLen at hlm
        have hk2 : (max 0 ((L.length : Int) - max (b : Int) 1 - 1)).toNat = L.length - max b 1 - 1 := by omega
        have hts := (hA6.keep (hI.below.mono (Nat.le_succ _))).tail (L.length - max b 1 - 1) (by omega)
        have hRj : Hid (Lib.join (L.drop (L.length - max b 1 - 1)) [46] = R) := Lib.hid (by rw [hR.out, hf.out]; rfl)
        have hj1 := join_len (L.drop (L.length - max b 1 - 1)) 46
        have hj2 := slashed_drop L (L.length - max b 1 - 1)
        have hjl : (L.drop (L.length - max b 1 - 1)).length ≤ L.length := by rw [List.length_drop]; omega
        rw [Nat.zero_add, ← hk2] at hts
        have hj := join_any _ [46] _ wr (hts.more (by have := hI.lt; omega)) (by rw [hk2]; omega) (by rw [hk2]; omega)
        rw [hk2] at hj hts
        rw [hRj.out, ← hk2] at hj
        replace hj := Lib.hid hj
        replace hk2 := Lib.hid hk2
        clear hts hj1 hj2 hjl
        go_wp2_with (go_at_call 90; refine hj.out.mono ?_; rintro e w2 ⟨rfl, hb2⟩)
        go_ret
        exact ⟨rfl, hwr.trans (hb2.mono hwr.size)⟩
end Go.Proofs.YtbafofldgkigmaaGreatDoor
namespace Go.Proofs.YtbafofldgkigmaaGreatDoor
open Go.RowKit
attribute [local irreducible] Calls
theorem join_cons (a : List UInt8) (r : List (List UInt8)) : Lib.join (a :: r) [46] = a ++ r.flatMap (46 :: ·) := by
  induction r generalizing a with
  | nil => simp [Lib.join, List.intercalate]
  | cons b s ih =>
    have := ih b
    simp [Lib.join, List.intercalate] at this ⊢
    exact this
set_option maxHeartbeats 4000000 in
theorem ref2_site (h : Gl.Host) (v : Value) (S : List (List UInt8)) (w : World) (hE : Env w) (ha : h.addr < 4294967296) (hn : h.name.length ≤ 1000000) (hv : Strs w w.heap.size v S) (hS : S.length ≤ 1000000) (hSl : ∀ s ∈ S, s.length ≤ 1000000) :
    Calls Tryz.prog 157 #[(Value.agg #[(Value.string ⟨((h).name).toArray⟩), (Value.bool (h).v4), (Value.int .u32 ((h).addr : Int))]), v] w (Ret w ((Value.string ⟨(Gl.siteOf h S).toArray⟩))) := by
  cases hv4 : h.v4 with
  | true =>
    rw [show Gl.siteOf h S = Gl.hostText h by unfold Gl.siteOf; rw [if_pos hv4]]
    have ht : ∀ W, Below w.heap.size w W → Calls Tryz.prog 95 #[(Value.agg #[(Value.string ⟨((h).name).toArray⟩), (Value.bool (h).v4), (Value.int .u32 ((h).addr : Int))])] W (Ret W ((Value.string ⟨(Gl.hostText h).toArray⟩))) := fun W hW => ref2_text h W (hE.below hW) ha
    rw [hv4] at ht
    generalize Gl.hostText h = t at *
    replace ht := Lib.hid ht
    obtain ⟨A, c, rfl, _⟩ := hv
    go_enter Tryz.func157, Tryz.ntmps157
    go_wp2_with (go_at_call 95; refine (ht.out _ (bw_)).mono ?_; rintro e w1 ⟨rfl, hb⟩; obtain ⟨hc, hfz⟩ := bcell hb; have hz := hb.size; (try simp at hz); (try have hz0 := lt_ hb w.heap.size); (try have hz1 := lt_ hb (w.heap.size + 1)); (try have hz2 := lt_ hb (w.heap.size + 2)); (try have hz3 := lt_ hb (w.heap.size + 3)); (try have hcA := fun o => hc w.heap.size o sz_); (try have hcB := fun o => hc (w.heap.size + 1) o sz_))
    go_ret
    exact ⟨by rfl, bw_⟩
  | false =>
    have hR : Gl.siteOf h S = Lib.join (Gl.siteParts (Gl.split 46 h.name) (Gl.best (Gl.split 46 h.name) 0 S)) [46] := by unfold Gl.siteOf; rw [if_neg (by rw [hv4]; simp)]
    generalize Gl.siteOf h S = R at *
    have hpos := split_pos 46 h.name
    have hsl := split_len 46 h.name
    have hlen := slashed_split 46 h.name
    have hsp : ∀ W, Calls Tryz.prog 191 #[(Value.string ⟨(h.name).toArray⟩), .int .u8 46] W (RetStrs W (Gl.split 46 h.name)) := fun W => ref1_split h.name 46 W (by omega)
    generalize hL : Gl.split 46 h.name = L at *
    clear hL
    generalize hB : Gl.best L 0 S = BB at *
    have hBB := best_le L S 0 (by omega)
    rw [hB] at hBB
    have hRl : R.length ≤ 1000002 := by
      have h1 := join_len (Gl.siteParts L BB) 46
      have h2 := slashed_drop L (L.length - max BB 1 - 1)
      unfold Gl.siteParts at h1 hR
      rw [hR]; omega
    replace hB := Lib.hid hB
    replace hsp := Lib.hid hsp
    replace hR := Lib.hid hR
    have H := Lib.hid hv
    obtain ⟨A, c, rfl, hc1, hc2, _⟩ := hv
    unfold maxLen at hc2
    go_enter Tryz.func157, Tryz.ntmps157
    go_wp2_with (go_at_call 191; refine ( hsp.out _).mono ?_; rintro e w1 ⟨v, rfl, hst, hb⟩; obtain ⟨hc, hfz⟩ := bcell hb; have hz := hb.size; (try simp at hz); (try have hz0 := lt_ hb w.heap.size); (try have hz1 := lt_ hb (w.heap.size + 1)); (try have hz2 := lt_ hb (w.heap.size + 2)); (try have hz3 := lt_ hb (w.heap.size + 3)); obtain ⟨lb, lc, hlc, hlm, hlB, hlv, _, hlcell⟩ := hst.at_; obtain rfl := hlv ( hpos); obtain ⟨hlb, hlB⟩ := hlB ( hpos))
    have hw1 : Below w.heap.size w w1 := bw_
    have hA6 := Lib.hid hst.strs
    unfold maxLen at hlm
    clear hc hfz hb hst hlcell hlb
    go_loopw [6, 7] (fun p i wr => ∃ k b : Nat, k ≤ S.length ∧ i = .int .i64 k ∧ p = .int .i64 b ∧ b ≤ L.length ∧ Below w1.heap.size w1 wr ∧ Hid (Gl.best L b (S.drop k) = BB)) (fun _ i _ => S.length - (intOf i).toNat)
    case atStart => exact ⟨0, 0, Nat.zero_le _, rfl, rfl, Nat.zero_le _, Below.refl _ _, hB⟩
    case round =>
      obtain ⟨k, b, hk, rfl, rfl, hbl, hwr, hr⟩ := hrel
      have hww : Below w.heap.size w wr := hw1.trans (hwr.mono hw1.size)
      by_cases hlt : k < S.length
      · obtain ⟨sb, so, sd, he, hsB, hcell⟩ := H.out.cells k hlt
        injection he with he1 he2 he3
        subst he1 he3
        have hck := (hww.cell (p := ⟨sb, so + k, none⟩) hsB).trans (hcell k hlt)
        clear hcell
        have hkl := hSl S[k] (List.getElem_mem hlt)
        have hsk : ∀ W, Calls Tryz.prog 191 #[(Value.string ⟨(S[k]).toArray⟩), .int .u8 46] W (RetStrs W (Gl.split 46 S[k])) := fun W => ref1_split S[k] 46 W (by omega)
        have hpk := split_pos 46 S[k]
        have hslk := split_len 46 S[k]
        have hstep : Gl.best L b (S.drop k) = Gl.best L (if Gl.endsIn L (Gl.split 46 S[k]) = true then max b (Gl.split 46 S[k]).length else b) (S.drop (k + 1)) := by rw [drop_consL hlt]; rfl
        generalize Gl.split 46 S[k] = M at *
        rw [hstep] at hr
        clear hstep
        have hen : ∀ W vM, Below w1.heap.size w1 W → Strs W W.heap.size vM M → Calls Tryz.prog 192 #[.slice (some ⟨lb, 0, none⟩) L.length lc, vM] W (Ret W (.bool (Gl.endsIn L M))) := fun W vM hW hM => ref2_ends _ vM L M W w1.heap.size W.heap.size (hA6.out.keep hW) hM hpk (by omega) (by omega)
        have hel := @endsIn_len L M
        generalize Gl.endsIn L M = q at *
        replace hsk := Lib.hid hsk
        replace hen := Lib.hid hen
        have hX := fun (W W2 : World) (v : Value) (hW : Below w1.heap.size w1 W) (hb : Below W.heap.size W W2) (hown : Own W2 W.heap.size v M) => hen.out W2 v (hW.trans (hb.mono hW.size)) hown.strs
        replace hX := Lib.hid hX
        cases q with
        | true =>
          have hM := hel rfl
          by_cases hmb : b < M.length
          · have hf : Hid (Gl.best L M.length (S.drop (k + 1)) = BB) := Lib.hid (by rw [← hr.out]; simp only [if_true]; rw [Nat.max_eq_right (by omega)])
            clear hr hel hen
            go_wp2_with (first
              | (go_at_call 191; refine (hsk.out _).mono ?_; rintro e w2 ⟨v, rfl, hown, hb2⟩; have hcl := hX.out _ _ _ hwr hb2 hown; replace hcl := Lib.hid hcl; obtain ⟨mb, mc, hmc, hmm, hmB, hmv, _, _⟩ := hown.at_; obtain rfl := hmv hpk; unfold maxLen at hmm)
              | (go_at_call 192; refine hcl.out.mono ?_; rintro e w3 ⟨rfl, hb3⟩))
            go_roundw
            case rel => exact ⟨k + 1, M.length, by omega, by go_num, rfl, hM, hwr.trans ((hb2.trans (hb3.mono hb2.size)).mono hwr.size), hf⟩
            case measure => simp [intOf]; omega
          · have hf : Hid (Gl.best L b (S.drop (k + 1)) = BB) := Lib.hid (by rw [← hr.out]; simp only [if_true]; rw [Nat.max_eq_left (by omega)])
            clear hr hel hen
            go_wp2_with (first
              | (go_at_call 191; refine (hsk.out _).mono ?_; rintro e w2 ⟨v, rfl, hown, hb2⟩; have hcl := hX.out _ _ _ hwr hb2 hown; replace hcl := Lib.hid hcl; obtain ⟨mb, mc, hmc, hmm, hmB, hmv, _, _⟩ := hown.at_; obtain rfl := hmv hpk; unfold maxLen at hmm)
              | (go_at_call 192; refine hcl.out.mono ?_; rintro e w3 ⟨rfl, hb3⟩))
            go_roundw
            case rel => exact ⟨k + 1, b, by omega, by go_num, rfl, hbl, hwr.trans ((hb2.trans (hb3.mono hb2.size)).mono hwr.size), hf⟩
            case measure => simp [intOf]; omega
        | false =>
          have hf : Hid (Gl.best L b (S.drop (k + 1)) = BB) := Lib.hid (by rw [← hr.out]; rfl)
          clear hr hel hen
          go_wp2_with (first
            | (go_at_call 191; refine (hsk.out _).mono ?_; rintro e w2 ⟨v, rfl, hown, hb2⟩; have hcl := hX.out _ _ _ hwr hb2 hown; replace hcl := Lib.hid hcl; obtain ⟨mb, mc, hmc, hmm, hmB, hmv, _, _⟩ := hown.at_; obtain rfl := hmv hpk; unfold maxLen at hmm)
            | (go_at_call 192; refine hcl.out.mono ?_; rintro e w3 ⟨rfl, hb3⟩))
          go_roundw
          case rel => exact ⟨k + 1, b, by omega, by go_num, rfl, hbl, hwr.trans ((hb2.trans (hb3.mono hb2.size)).mono hwr.size), hf⟩
          case measure => simp [intOf]; omega
      · have hf : Hid (BB = b) := Lib.hid (by rw [← hr.out, List.drop_eq_nil_of_le (by omega)]; rfl)
        have hR2 : Hid (R = Lib.join (L.drop (L.length - max b 1 - 1)) [46]) := Lib.hid (by rw [hR.out, hf.out]; rfl)
        clear hr
        clear hf hlB hlv
        obtain ⟨K, hK1, hK2, hKl, hR3⟩ : ∃ K : Nat, K ≤ L.length - max b 1 - 1 ∧ L.length - max b 1 - 1 ≤ K ∧ K < L.length ∧ R = Lib.join (L.drop K) [46] := ⟨_, Nat.le_refl _, Nat.le_refl _, by omega, hR2.out⟩
        clear hR2
        have hR2 := Lib.hid hR3
        clear hR3
        rcases Nat.eq_zero_or_pos b with hb0 | hb0 <;> rcases Nat.lt_or_ge L.length (max b 1 + 1) with hsg | hsg
        all_goals
          try subst hb0
          go_wp2_with fail
          go_loopw [11, 12] (fun o i wq => ∃ (m : Nat) (out : List UInt8), K ≤ m ∧ m ≤ L.length ∧ i = .int .i64 m ∧ o = (Value.string ⟨(out).toArray⟩) ∧ out.length ≤ 1000002 ∧ Below w1.heap.size w1 wq ∧ Hid (m = K → out = []) ∧ Hid (K < m → out ++ (L.drop m).flatMap (46 :: ·) = R)) (fun _ i _ => L.length - (intOf i).toNat)
          case atStart => exact ⟨K, [], Nat.le_refl _, by omega, by first | rfl | (congr 1; omega), rfl, by simp, hwr, Lib.hid (fun _ => rfl), Lib.hid (fun h => absurd h (Nat.lt_irrefl _))⟩
          case round =>
            obtain ⟨m, out, hm1, hm2, rfl, rfl, hol, hwq, hz, hr⟩ := hrel
            by_cases hml : m < L.length
            · obtain ⟨qb, qo, qd, he, hqB, hcell⟩ := (hA6.out.keep hwq).cells m hml
              injection he with he1 he2 he3
              injection he1 with he1
              injection he1 with he4 he5
              subst he4 he5 he3
              have hck := hcell m hml
              rw [Nat.zero_add] at hck
              clear hcell
              by_cases hmk : m = K
              · have ho := hz.out hmk
                subst ho
                have hf : Hid (L[m] ++ (L.drop (m + 1)).flatMap (46 :: ·) = R) := Lib.hid (by rw [hR2.out, ← hmk, drop_consL hml, join_cons])
                have hfl : L[m].length ≤ 1000002 := by
                  have := congrArg List.length hf.out
                  rw [List.length_append] at this
                  omega
                have hmk1 : m ≤ K := by omega
                clear hz hr hmk
                go_wp2_with fail
                go_roundw
                case rel => exact ⟨m + 1, L[m], by omega, by omega, by go_num, by simp, hfl, hwq, Lib.hid (fun h => by omega), Lib.hid (fun _ => hf.out)⟩
                case measure => simp [intOf]; omega
              · have hkm : K < m := by omega
                first
                | (exfalso; omega)
                | (have hf : Hid ((out ++ 46 :: L[m]) ++ (L.drop (m + 1)).flatMap (46 :: ·) = R) := Lib.hid (by rw [← hr.out hkm, drop_consL hml]; simp only [List.flatMap_cons, List.append_assoc, List.cons_append])
                   have hfl : (out ++ 46 :: L[m]).length ≤ 1000002 := by
                     have := congrArg List.length hf.out
                     rw [List.length_append] at this
                     omega
                   have hfl' : out.length + L[m].length + 1 ≤ 1000002 := by simpa [Nat.add_assoc] using hfl
                   clear hz hr
                   go_wp2_with fail
                   go_roundw
                   case rel => exact ⟨m + 1, out ++ 46 :: L[m], by omega, by omega, by go_num, by simp, hfl, hwq, Lib.hid (fun h => by omega), Lib.hid (fun _ => hf.out)⟩
                   case measure => simp [intOf]; omega)
            · have hml2 : m = L.length := by omega
              have hf : Hid (out = R) := Lib.hid (by have := hr.out (by omega); rw [List.drop_eq_nil_of_le (by omega)] at this; simpa using this)
              go_wp2_with fail
              go_ret
              exact ⟨by rw [hf.out] <;> rfl, hw1.trans (hwq.mono hw1.size)⟩
end Go.Proofs.YtbafofldgkigmaaGreatDoor
namespace Go.Proofs.YtbafofldgkigmaaGreatDoor.Gl
structure Origin where
  opaq : Bool := false
  id : Int := 0
  scheme : Bs := []
  host : Host := {}
  port : Int := 0
  deriving DecidableEq
def origOf (u : URL) (id : Int) : Origin :=
  if isNet u = false then { opaq := true, id := id } else { scheme := u.scheme, host := u.host, port := if u.port < 0 then own u.scheme else u.port }
def originOf (u : URL) (id : Int) : Origin := origOf (if (innerOf u).2 then (innerOf u).1 else u) id
def nullT : Bs := [110, 117, 108, 108]
/-- Has an origin its scheme's own port? -/
def ownPort (o : Origin) : Bool := (o.scheme == http && o.port == 80) || (o.scheme == https && o.port == 443)
def originText (o : Origin) : Bs :=
  if o.opaq then nullT else o.scheme ++ [58, 47, 47] ++ hostText o.host ++ (if ownPort o then [] else [58] ++ Lib.itoa o.port)
def originSame (a b : Origin) : Bool :=
  if a.opaq && b.opaq then a.id == b.id else !a.opaq && !b.opaq && a.scheme == b.scheme && a.host == b.host && a.port == b.port
def originSite (o : Origin) (S : List Bs) : Bs := if o.opaq then nullT else siteOf o.host S
def sameSite (a b : Origin) (S : List Bs) : Bool := if a.opaq || b.opaq then originSame a b else originSite a S == originSite b S
end Go.Proofs.YtbafofldgkigmaaGreatDoor.Gl
namespace Go.Proofs.YtbafofldgkigmaaGreatDoor
open Go.RowKit
theorem run_get1 {P : Program} (w : World) (mty kt et : TypeId) (r : Nat) (s : ByteArray) (es : Array MapEntry) (clock : Nat) (z : Value) (res : Option (Nat × Value)) (hm : P.underlying mty = some (.map kt et)) (hk : P.underlying kt = some .string)
    (hz : (zeroValue et).run P w = .ok z w) (hb : w.heap[r]? = some (.map es clock)) (hf : Instr.findNow .string (.string s) es.toList 0 = some res) :
    (Instr.lookup mty (.map (some r)) (.string s) false).run P w = .ok ((res.map (·.2)).getD z) w := by
  have hc : ∀ b, (Instr.checkKey b 10000 kt (.string s)).run P w = .ok () w := fun b => MapKept.run_checkKey (k := .string s) hk (by simp [MapKept.IsKey]) b 9999
  cases res with
  | none => simp [Instr.lookup, run_underlying hm, MapKept.run_getObj_map hb, hc, MapKept.run_findKey hk hf, hz, Result.andThen]
  | some x => simp [Instr.lookup, run_underlying hm, MapKept.run_getObj_map hb, hc, MapKept.run_findKey hk hf, Result.andThen]
def ownMap : Array MapEntry := #[{ key := .string ⟨#[104, 116, 116, 112]⟩, val := .int .i64 80, born := 0 }, { key := .string ⟨#[104, 116, 116, 112, 115]⟩, val := .int .i64 443, born := 1 }]
set_option maxRecDepth 100000 in
theorem origin_own (w : World) : Calls Tryz.prog 48 #[] w (fun e w' => e = .returned (.map (some w.heap.size)) ∧ w' = w.alloc (.map ownMap 2)) := by
  have hmm := @run_makeMap Tryz.prog
  have p1 : (Instr.mapUpdate 99 (.map (some w.heap.size)) (.string ⟨#[104, 116, 116, 112]⟩) (.int .i64 80)).run Tryz.prog (w.alloc (.map (#[] : Array MapEntry) 0)) = .ok () (w.alloc (.map (#[{ key := .string ⟨#[104, 116, 116, 112]⟩, val := .int .i64 80, born := 0 }] : Array MapEntry) 1)) :=
    run_put (P := Tryz.prog) w 99 9 3 _ _ (#[] : Array MapEntry) 0 Tryz.underlying99 Tryz.underlying9 (by kernel_rfl)
  have p2 : (Instr.mapUpdate 99 (.map (some w.heap.size)) (.string ⟨#[104, 116, 116, 112, 115]⟩) (.int .i64 443)).run Tryz.prog (w.alloc (.map (#[{ key := .string ⟨#[104, 116, 116, 112]⟩, val := .int .i64 80, born := 0 }] : Array MapEntry) 1)) = .ok () (w.alloc (.map ownMap 2)) :=
    run_put (P := Tryz.prog) w 99 9 3 _ _ (#[{ key := .string ⟨#[104, 116, 116, 112]⟩, val := .int .i64 80, born := 0 }] : Array MapEntry) 1 Tryz.underlying99 Tryz.underlying9 (by kernel_rfl)
  go_enter Tryz.func48, Tryz.ntmps48
  go_wp2
  go_ret
  exact ⟨rfl, rfl⟩
/-- The own port of a scheme, 0 where it has none; has it one? -/
def ownOf (s : List UInt8) : Int := if s = Gl.http then 80 else if s = Gl.https then 443 else 0
def hasOwn (s : List UInt8) : Bool := s == Gl.http || s == Gl.https
theorem find_own (s : List UInt8) : ∃ res, Instr.findNow .string (.string ⟨s.toArray⟩) ownMap.toList 0 = some res ∧ (res.map (·.2)).getD (.int .i64 0) = .int .i64 (ownOf s) ∧ res.isSome = hasOwn s := by
  have hstep : ∀ (k : List UInt8) (v : Value) (b : Nat) (es : List MapEntry) (i : Nat), Instr.findNow .string (.string ⟨s.toArray⟩) ({ key := .string ⟨k.toArray⟩, val := v, born := b } :: es) i = if s = k then some (some (i, v)) else Instr.findNow .string (.string ⟨s.toArray⟩) es (i + 1) := by
    intro k v b es i
    conv => lhs; unfold Instr.findNow
    simp only [Instr.sameNow, string_beq]
    by_cases h : s = k
    · rw [if_pos h, beq_iff_eq.2 h]
    · rw [if_neg h, beq_eq_false_iff_ne.2 h]
  show ∃ res, Instr.findNow .string (.string ⟨s.toArray⟩) [{ key := .string ⟨Gl.http.toArray⟩, val := .int .i64 80, born := 0 }, { key := .string ⟨Gl.https.toArray⟩, val := .int .i64 443, born := 1 }] 0 = some res ∧ _
  simp only [hstep]
  have hnil : ∀ i, Instr.findNow .string (.string ⟨s.toArray⟩) [] i = some none := fun _ => rfl
  rw [hnil]
  by_cases h1 : s = Gl.http
  · exact ⟨_, if_pos h1, by subst h1; rfl, by subst h1; rfl⟩
  by_cases h2 : s = Gl.https
  · exact ⟨_, by rw [if_neg h1, if_pos h2], by subst h2; rfl, by subst h2; rfl⟩
  · refine ⟨_, by rw [if_neg h1, if_neg h2], ?_, ?_⟩
    · simp [ownOf, h1, h2]
    · simp [hasOwn, h1, h2]
theorem look_own (s : List UInt8) (W : World) (r : Nat) (h : W.heap[r]? = some (.map ownMap 2)) :
    (Instr.lookup 99 (.map (some r)) (.string ⟨s.toArray⟩) true).run Tryz.prog W = .ok (.tuple #[.int .i64 (ownOf s), .bool (hasOwn s)]) W := by
  obtain ⟨res, h1, h2, h3⟩ := find_own s
  rw [run_get (P := Tryz.prog) W 99 9 3 r _ _ _ (.int .i64 0) res Tryz.underlying99 Tryz.underlying9 (by kernel_rfl) h h1, h2, h3]
theorem look_own1 (s : List UInt8) (W : World) (r : Nat) (h : W.heap[r]? = some (.map ownMap 2)) :
    (Instr.lookup 99 (.map (some r)) (.string ⟨s.toArray⟩) false).run Tryz.prog W = .ok (.int .i64 (ownOf s)) W := by
  obtain ⟨res, h1, h2, _⟩ := find_own s
  rw [run_get1 (P := Tryz.prog) W 99 9 3 r _ _ _ (.int .i64 0) res Tryz.underlying99 Tryz.underlying9 (by kernel_rfl) h h1, h2]
theorem origin_own_at (w : World) : Calls Tryz.prog 48 #[] w (fun e w' => (e = .returned (.map (some w.heap.size)) ∧ Below w.heap.size w w') ∧ w'.heap[w.heap.size]? = some (.map ownMap 2)) :=
  (origin_own w).mono fun _ _ ⟨he, hw⟩ => ⟨⟨he, hw ▸ Below.alloc (Below.refl _ _) (Nat.le_refl _) _⟩, hw ▸ heap_alloc_new w _⟩
end Go.Proofs.YtbafofldgkigmaaGreatDoor
namespace Go.Proofs.YtbafofldgkigmaaGreatDoor
open Go.RowKit
section
variable (w : World) (a1 a2 e1 e2 : Bool) (b1 b2 f1 f2 g1 g2 : Int) (c1 c2 d1 d2 : List UInt8)
set_option maxHeartbeats 2000000 in
theorem run_eq_origin : (Op.equalIn 10000 35 (.agg #[.bool a1, .int .i64 b1, (.string ⟨(c1).toArray⟩), (.string ⟨(d1).toArray⟩), .bool e1, .int .u32 f1, .int .i64 g1]) (.agg #[.bool a2, .int .i64 b2, (.string ⟨(c2).toArray⟩), (.string ⟨(d2).toArray⟩), .bool e2, .int .u32 f2, .int .i64 g2])).run Tryz.prog w = .ok ((a1 == a2) && (b1 == b2) && (c1 == c2) && (d1 == d2) && (e1 == e2) && (f1 == f2) && (g1 == g2)) w := by
  rw [show (10000 : Nat) = 9999 + 1 from rfl, run_equalIn_agg w 9999 35 _ _ (by kernel_rfl) (by kernel_rfl)]
  simp only [Program.fieldsOf, Tryz.underlying35]
  have hh : ∀ (x y : Array Value), (Op.equalIn 9999 26 (.agg x) (.agg y)).run Tryz.prog w = (Op.eqFields 9998 x y ((Tryz.prog).fieldsOf 26).toList).run Tryz.prog w := fun x y => run_equalIn_agg w 9998 26 x y (by kernel_rfl) (by kernel_rfl)
  go_simp
  by_cases q1 : a1 = a2
  case neg => simp [q1]
  by_cases q2 : b1 = b2
  case neg => simp [q2]
  by_cases q3 : c1 = c2
  case neg => simp [q3]
  by_cases q4 : d1 = d2
  case neg => simp [q4]
  by_cases q5 : e1 = e2
  case neg => simp [q5]
  by_cases q6 : f1 = f2
  case neg => simp [q6]
  by_cases q7 : g1 = g2 <;> simp [q1, q2, q3, q4, q5, q6, q7]
/-- Are the cells of two origins the same? -/
def eqO (a1 : Bool) (b1 : Int) (c1 d1 : List UInt8) (e1 : Bool) (f1 g1 : Int) (a2 : Bool) (b2 : Int) (c2 d2 : List UInt8) (e2 : Bool) (f2 g2 : Int) : Bool := (a1 == a2) && (b1 == b2) && (c1 == c2) && (d1 == d2) && (e1 == e2) && (f1 == f2) && (g1 == g2)
@[go_sem] theorem eqO_self : eqO a1 b1 c1 d1 e1 f1 g1 a1 b1 c1 d1 e1 f1 g1 = true := by simp [eqO]
@[go_sem high] theorem run_eql_origin : (binOp .eql 35 (.agg #[.bool a1, .int .i64 b1, (.string ⟨(c1).toArray⟩), (.string ⟨(d1).toArray⟩), .bool e1, .int .u32 f1, .int .i64 g1]) (.agg #[.bool a2, .int .i64 b2, (.string ⟨(c2).toArray⟩), (.string ⟨(d2).toArray⟩), .bool e2, .int .u32 f2, .int .i64 g2])).run Tryz.prog w = .ok (.bool (eqO a1 b1 c1 d1 e1 f1 g1 a2 b2 c2 d2 e2 f2 g2)) w := by
  rw [run_eql_struct, run_eq_origin]; rfl
@[go_sem high] theorem run_neq_origin : (binOp .neq 35 (.agg #[.bool a1, .int .i64 b1, (.string ⟨(c1).toArray⟩), (.string ⟨(d1).toArray⟩), .bool e1, .int .u32 f1, .int .i64 g1]) (.agg #[.bool a2, .int .i64 b2, (.string ⟨(c2).toArray⟩), (.string ⟨(d2).toArray⟩), .bool e2, .int .u32 f2, .int .i64 g2])).run Tryz.prog w = .ok (.bool (!(eqO a1 b1 c1 d1 e1 f1 g1 a2 b2 c2 d2 e2 f2 g2))) w := by
  rw [run_neq_struct, run_eq_origin]; rfl
@[go_sem] theorem run_guard_origin (op : BinOp) (x y : Operand) (xs ys : Array Value) : (eqGuard op 35 x y (.agg xs) (.agg ys)).run Tryz.prog w = .ok () w := run_eqGuard_agg w op 35 x y xs ys (by kernel_rfl)
set_option maxHeartbeats 2000000 in
theorem run_eq_host (x1 x2 : List UInt8) : (Op.equalIn 10000 26 (.agg #[.string ⟨x1.toArray⟩, .bool e1, .int .u32 f1]) (.agg #[.string ⟨x2.toArray⟩, .bool e2, .int .u32 f2])).run Tryz.prog w = .ok ((x1 == x2) && (e1 == e2) && (f1 == f2)) w := by
  rw [show (10000 : Nat) = 9999 + 1 from rfl, run_equalIn_agg w 9999 26 _ _ (by kernel_rfl) (by kernel_rfl)]
  simp only [Program.fieldsOf, Tryz.underlying26]
  go_simp
  by_cases q1 : x1 = x2
  case neg => simp [q1]
  by_cases q5 : e1 = e2
  case neg => simp [q5]
  by_cases q6 : f1 = f2 <;> simp [q1, q5, q6]
/-- Are the cells of two hosts the same? -/
def eqH (x1 : List UInt8) (e1 : Bool) (f1 : Int) (x2 : List UInt8) (e2 : Bool) (f2 : Int) : Bool := (x1 == x2) && (e1 == e2) && (f1 == f2)
@[go_sem] theorem eqH_self (x1 : List UInt8) : eqH x1 e1 f1 x1 e1 f1 = true := by simp [eqH]
@[go_sem high] theorem run_eql_host (x1 x2 : List UInt8) : (binOp .eql 26 (.agg #[.string ⟨x1.toArray⟩, .bool e1, .int .u32 f1]) (.agg #[.string ⟨x2.toArray⟩, .bool e2, .int .u32 f2])).run Tryz.prog w = .ok (.bool (eqH x1 e1 f1 x2 e2 f2)) w := by
  rw [run_eql_struct, run_eq_host]; rfl
@[go_sem] theorem run_guard_host (op : BinOp) (x y : Operand) (xs ys : Array Value) : (eqGuard op 26 x y (.agg xs) (.agg ys)).run Tryz.prog w = .ok () w := run_eqGuard_agg w op 26 x y xs ys (by kernel_rfl)
end
end Go.Proofs.YtbafofldgkigmaaGreatDoor
namespace Go.Proofs.YtbafofldgkigmaaGreatDoor
open Go.RowKit
attribute [local irreducible] Calls

def bareO (o : Gl.Origin) : Gl.Origin := if o.opaq then { opaq := true, id := o.id } else { o with id := 0 }
theorem host_beq (a b : Gl.Host) : (a == b) = ((a.name == b.name) && (a.v4 == b.v4) && ((a.addr : Int) == (b.addr : Int))) := by
  obtain ⟨n, v, x⟩ := a
  obtain ⟨m, u, y⟩ := b
  rw [Bool.eq_iff_iff]
  simp [and_assoc]
  intros
  omega
theorem bare_same (a b : Gl.Origin) : eqO (bareO a).opaq (bareO a).id (bareO a).scheme (bareO a).host.name (bareO a).host.v4 ((bareO a).host.addr : Int) (bareO a).port (bareO b).opaq (bareO b).id (bareO b).scheme (bareO b).host.name (bareO b).host.v4 ((bareO b).host.addr : Int) (bareO b).port = Gl.originSame a b := by
  unfold eqO
  show (((bareO a).opaq == (bareO b).opaq) && ((bareO a).id == (bareO b).id) && ((bareO a).scheme == (bareO b).scheme) && ((bareO a).host.name == (bareO b).host.name) && ((bareO a).host.v4 == (bareO b).host.v4) && (((bareO a).host.addr : Int) == ((bareO b).host.addr : Int)) && ((bareO a).port == (bareO b).port)) = Gl.originSame a b
  obtain ⟨q, i, s, h, p⟩ := a
  obtain ⟨r, j, t, g, o⟩ := b
  unfold Gl.originSame bareO
  cases q <;> cases r <;> simp [host_beq, Bool.and_assoc]
theorem origin_bare (o : Gl.Origin) (w : World) : Calls Tryz.prog 89 #[(Value.agg #[(Value.bool (o).opaq), (Value.int .i64 (o).id), (Value.string ⟨((o).scheme).toArray⟩), (Value.string ⟨(((o).host).name).toArray⟩), (Value.bool ((o).host).v4), (Value.int .u32 (((o).host).addr : Int)), (Value.int .i64 (o).port)])] w (Ret w ((Value.agg #[(Value.bool (bareO o).opaq), (Value.int .i64 (bareO o).id), (Value.string ⟨((bareO o).scheme).toArray⟩), (Value.string ⟨(((bareO o).host).name).toArray⟩), (Value.bool ((bareO o).host).v4), (Value.int .u32 (((bareO o).host).addr : Int)), (Value.int .i64 (bareO o).port)]))) := by
  obtain ⟨q, i, s, h, p⟩ := o
  cases q <;> unfold bareO <;> simp only [Bool.false_eq_true, if_false, if_true]
  all_goals
    go_enter Tryz.func89, Tryz.ntmps89
    go_wp2
  · refine bodyPost_ret (v := (Value.agg #[.bool false, .int .i64 0, (Value.string ⟨(s).toArray⟩), (Value.string ⟨((h).name).toArray⟩), (Value.bool (h).v4), (Value.int .u32 ((h).addr : Int)), .int .i64 p])) (by simp only [results, Tryz.results89]; go_simp) rfl ⟨rfl, ?_⟩
    (exact bw_)
  · refine bodyPost_ret (v := (Value.agg #[.bool true, .int .i64 i, .string ⟨#[]⟩, .string ⟨#[]⟩, .bool false, .int .u32 0, .int .i64 0])) (by simp only [results, Tryz.results89]; go_simp) rfl ⟨rfl, ?_⟩
    (exact bw_)
set_option maxHeartbeats 1000000 in
theorem origin_same (a b : Gl.Origin) (w : World) : Calls Tryz.prog 58 #[(Value.agg #[(Value.bool (a).opaq), (Value.int .i64 (a).id), (Value.string ⟨((a).scheme).toArray⟩), (Value.string ⟨(((a).host).name).toArray⟩), (Value.bool ((a).host).v4), (Value.int .u32 (((a).host).addr : Int)), (Value.int .i64 (a).port)]), (Value.agg #[(Value.bool (b).opaq), (Value.int .i64 (b).id), (Value.string ⟨((b).scheme).toArray⟩), (Value.string ⟨(((b).host).name).toArray⟩), (Value.bool ((b).host).v4), (Value.int .u32 (((b).host).addr : Int)), (Value.int .i64 (b).port)])] w (Ret w (.bool (Gl.originSame a b))) := by
  have hs := bare_same a b
  generalize Gl.originSame a b = R at *
  have h1 := fun W => origin_bare a W
  have h2 := fun W => origin_bare b W
  generalize bareO a = x at *
  generalize bareO b = y at *
  replace h1 := Lib.hid h1
  replace h2 := Lib.hid h2
  go_enter Tryz.func58, Tryz.ntmps58
  go_wp2_with fail
  generalize hW0 : ((w.alloc (Obj.cells #[(Value.bool (a).opaq), (Value.int .i64 (a).id), (Value.string ⟨((a).scheme).toArray⟩), (Value.string ⟨(((a).host).name).toArray⟩), (Value.bool ((a).host).v4), (Value.int .u32 (((a).host).addr : Int)), (Value.int .i64 (a).port)] 35)).alloc (Obj.cells #[(Value.bool (b).opaq), (Value.int .i64 (b).id), (Value.string ⟨((b).scheme).toArray⟩), (Value.string ⟨(((b).host).name).toArray⟩), (Value.bool ((b).host).v4), (Value.int .u32 (((b).host).addr : Int)), (Value.int .i64 (b).port)] 35)) = W0
  have hw0 : Below w.heap.size w W0 := by rw [← hW0]; (exact bw_)
  have hBA : Blk W0 (w.heap.size) 35 #[(Value.bool (a).opaq), (Value.int .i64 (a).id), (Value.string ⟨((a).scheme).toArray⟩), (Value.string ⟨(((a).host).name).toArray⟩), (Value.bool ((a).host).v4), (Value.int .u32 (((a).host).addr : Int)), (Value.int .i64 (a).port)] := by rw [← hW0]; exact (Blk.alloc (Blk.new _ _ _) _)
  have hBB : Blk W0 (w.heap.size + 1) 35 #[(Value.bool (b).opaq), (Value.int .i64 (b).id), (Value.string ⟨((b).scheme).toArray⟩), (Value.string ⟨(((b).host).name).toArray⟩), (Value.bool ((b).host).v4), (Value.int .u32 (((b).host).addr : Int)), (Value.int .i64 (b).port)] := by rw [← hW0]; exact (by have := Blk.new (w.alloc (Obj.cells #[(Value.bool (a).opaq), (Value.int .i64 (a).id), (Value.string ⟨((a).scheme).toArray⟩), (Value.string ⟨(((a).host).name).toArray⟩), (Value.bool ((a).host).v4), (Value.int .u32 (((a).host).addr : Int)), (Value.int .i64 (a).port)] 35)) 35 #[(Value.bool (b).opaq), (Value.int .i64 (b).id), (Value.string ⟨((b).scheme).toArray⟩), (Value.string ⟨(((b).host).name).toArray⟩), (Value.bool ((b).host).v4), (Value.int .u32 (((b).host).addr : Int)), (Value.int .i64 (b).port)]; simpa [World.size_alloc] using this)
  have hAl := hBA.lt
  have hAc := hBA.cell
  have hAf := hBA.frozen
  have hBl := hBB.lt
  have hBc := hBB.cell
  have hBf := hBB.frozen
  clear hW0
  go_region_held3 (fun W => Below w.heap.size w W ∧ w.heap.size < W.heap.size ∧ w.heap.size + 1 < W.heap.size ∧ (∀ n0, W.cell? ⟨w.heap.size, n0, none⟩ = (#[(Value.bool (a).opaq), (Value.int .i64 (a).id), (Value.string ⟨((a).scheme).toArray⟩), (Value.string ⟨(((a).host).name).toArray⟩), (Value.bool ((a).host).v4), (Value.int .u32 (((a).host).addr : Int)), (Value.int .i64 (a).port)] : Array Value)[n0]?) ∧ (∀ n0, W.cell? ⟨w.heap.size + 1, n0, none⟩ = (#[(Value.bool (b).opaq), (Value.int .i64 (b).id), (Value.string ⟨((b).scheme).toArray⟩), (Value.string ⟨(((b).host).name).toArray⟩), (Value.bool ((b).host).v4), (Value.int .u32 (((b).host).addr : Int)), (Value.int .i64 (b).port)] : Array Value)[n0]?)) ((refine ⟨bw_, ?_⟩; simp [*]))
    (first | ((first | (go_at_call 89; refine (h1.out _).mono ?_) | (go_at_call 89; refine (h2.out _).mono ?_)); rintro e w1 ⟨rfl, hb⟩; obtain ⟨hc, hfz⟩ := bcell hb; have hz := hb.size; (try simp at hz); (try have hz0 := lt_ hb w.heap.size); (try have hz1 := lt_ hb (w.heap.size + 1)); (try have hz2 := lt_ hb (w.heap.size + 2)); (try have hz3 := lt_ hb (w.heap.size + 3)); (try have hcA := fun o => hc w.heap.size o sz_); (try have hcB := fun o => hc (w.heap.size + 1) o sz_)))
  all_goals go_wp2_with fail
  all_goals go_ret
  all_goals exact ⟨rfl, bw_⟩
set_option maxHeartbeats 1000000 in
theorem ref4_same (a b : Gl.Origin) (w : World) : Calls Tryz.prog 70 #[(Value.agg #[(Value.bool (a).opaq), (Value.int .i64 (a).id), (Value.string ⟨((a).scheme).toArray⟩), (Value.string ⟨(((a).host).name).toArray⟩), (Value.bool ((a).host).v4), (Value.int .u32 (((a).host).addr : Int)), (Value.int .i64 (a).port)]), (Value.agg #[(Value.bool (b).opaq), (Value.int .i64 (b).id), (Value.string ⟨((b).scheme).toArray⟩), (Value.string ⟨(((b).host).name).toArray⟩), (Value.bool ((b).host).v4), (Value.int .u32 (((b).host).addr : Int)), (Value.int .i64 (b).port)])] w (Ret w (.bool (Gl.originSame a b))) := by
  have hR : Gl.originSame a b = if a.opaq && b.opaq then a.id == b.id else !a.opaq && !b.opaq && a.scheme == b.scheme && a.host == b.host && a.port == b.port := rfl
  rw [host_beq] at hR
  generalize Gl.originSame a b = R at *
  obtain ⟨q, i, s, h, p⟩ := a
  obtain ⟨r, j, t, g, o⟩ := b
  simp only at hR ⊢
  cases q <;> cases r
  · have hE : eqH h.name h.v4 (h.addr : Int) g.name g.v4 (g.addr : Int) = ((h.name == g.name) && (h.v4 == g.v4) && ((h.addr : Int) == (g.addr : Int))) := rfl
    rw [← hE] at hR
    clear hE
    cases h1 : (s == t) with
    | false =>
      rw [h1] at hR
      have hf : Hid (R = false) := Lib.hid (by rw [hR]; simp)
      clear hR
      go_enter Tryz.func70, Tryz.ntmps70
      go_wp2
      go_ret
      exact ⟨by rw [hf.out] <;> rfl, bw_⟩
    | true =>
      cases h2 : eqH h.name h.v4 (h.addr : Int) g.name g.v4 (g.addr : Int) with
      | false =>
        rw [h1, h2] at hR
        have hf : Hid (R = false) := Lib.hid (by rw [hR]; simp)
        clear hR
        go_enter Tryz.func70, Tryz.ntmps70
        go_wp2
        go_ret
        exact ⟨by rw [hf.out] <;> rfl, bw_⟩
      | true =>
        cases h3 : (p == o) with
        | false =>
          rw [h1, h2, h3] at hR
          have hf : Hid (R = false) := Lib.hid (by rw [hR]; simp)
          clear hR
          go_enter Tryz.func70, Tryz.ntmps70
          go_wp2
          go_ret
          exact ⟨by rw [hf.out] <;> rfl, bw_⟩
        | true =>
          rw [h1, h2, h3] at hR
          have hf : Hid (R = true) := Lib.hid (by rw [hR]; simp)
          clear hR
          go_enter Tryz.func70, Tryz.ntmps70
          go_wp2
          go_ret
          exact ⟨by rw [hf.out] <;> rfl, bw_⟩
  · have hf : Hid (R = false) := Lib.hid (by rw [hR]; simp)
    clear hR
    go_enter Tryz.func70, Tryz.ntmps70
    go_wp2
    go_ret
    exact ⟨by rw [hf.out] <;> rfl, bw_⟩
  · have hf : Hid (R = false) := Lib.hid (by rw [hR]; simp)
    clear hR
    go_enter Tryz.func70, Tryz.ntmps70
    go_wp2
    go_ret
    exact ⟨by rw [hf.out] <;> rfl, bw_⟩
  · have hf : Hid (R = (i == j)) := Lib.hid (by rw [hR]; simp)
    clear hR
    go_enter Tryz.func70, Tryz.ntmps70
    go_wp2
    go_ret
    exact ⟨by rw [hf.out] <;> rfl, bw_⟩
end Go.Proofs.YtbafofldgkigmaaGreatDoor
namespace Go.Proofs.YtbafofldgkigmaaGreatDoor
open Go.RowKit
attribute [local irreducible] Calls

structure OFits (o : Gl.Origin) : Prop where
  addr : o.host.addr < 4294967296
  name : o.host.name.length ≤ 1000000
/-- A row of suffixes, few and short. -/
structure Sufs (w : World) (v : Value) (S : List (List UInt8)) : Prop where
  strs : Strs w w.heap.size v S
  few : S.length ≤ 1000000
  short : ∀ s ∈ S, s.length ≤ 1000000
theorem Sufs.below {w w' : World} {v : Value} {S : List (List UInt8)} (h : Sufs w v S) (hb : Below w.heap.size w w') : Sufs w' v S := ⟨(h.strs.keep hb).more hb.size, h.few, h.short⟩

theorem origin_site (o : Gl.Origin) (v : Value) (S : List (List UInt8)) (w : World) (hE : Env w) (ho : OFits o) (hv : Sufs w v S) : Calls Tryz.prog 88 #[(Value.agg #[(Value.bool (o).opaq), (Value.int .i64 (o).id), (Value.string ⟨((o).scheme).toArray⟩), (Value.string ⟨(((o).host).name).toArray⟩), (Value.bool ((o).host).v4), (Value.int .u32 (((o).host).addr : Int)), (Value.int .i64 (o).port)]), v] w (Ret w ((Value.string ⟨(Gl.originSite o S).toArray⟩))) := by
  have hR : Gl.originSite o S = if o.opaq then Gl.nullT else Gl.siteOf o.host S := rfl
  generalize Gl.originSite o S = R at *
  obtain ⟨q, i, s, h, p⟩ := o
  simp only at hR ⊢
  obtain ⟨hvA, hvc, hve, hv1, hv2, _⟩ := hv.strs
  cases q
  · have hs : ∀ W, Below w.heap.size w W → Calls Tryz.prog 116 #[(Value.agg #[(Value.string ⟨((h).name).toArray⟩), (Value.bool (h).v4), (Value.int .u32 ((h).addr : Int))]), v] W (Ret W ((Value.string ⟨(R).toArray⟩))) := fun W hW => by
      rw [hR]
      have hvW := hv.below hW
      exact host_site h v S W (hE.below hW) ho.addr ho.name hvW.strs hvW.few hvW.short
    subst hve
    clear hR
    replace hs := Lib.hid hs
    go_enter Tryz.func88, Tryz.ntmps88
    go_wp2_with (go_at_call 116; refine (hs.out _ (bw_)).mono ?_; rintro e w1 ⟨rfl, hb⟩; obtain ⟨hc, hfz⟩ := bcell hb; have hz := hb.size; (try simp at hz); (try have hz0 := lt_ hb w.heap.size); (try have hz1 := lt_ hb (w.heap.size + 1)); (try have hz2 := lt_ hb (w.heap.size + 2)); (try have hz3 := lt_ hb (w.heap.size + 3)); (try have hcA := fun o => hc w.heap.size o sz_); (try have hcB := fun o => hc (w.heap.size + 1) o sz_))
    go_ret
    exact ⟨by rfl, bw_⟩
  · subst hve
    have hf : Hid (R = [110, 117, 108, 108]) := Lib.hid (by rw [hR]; rfl)
    clear hR
    go_enter Tryz.func88, Tryz.ntmps88
    go_wp2
    go_ret
    exact ⟨by rw [hf.out] <;> rfl, bw_⟩
set_option maxHeartbeats 1000000 in
theorem origin_same_site (a b : Gl.Origin) (v : Value) (S : List (List UInt8)) (w : World) (hE : Env w) (ha : OFits a) (hb0 : OFits b) (hv : Sufs w v S) : Calls Tryz.prog 57 #[(Value.agg #[(Value.bool (a).opaq), (Value.int .i64 (a).id), (Value.string ⟨((a).scheme).toArray⟩), (Value.string ⟨(((a).host).name).toArray⟩), (Value.bool ((a).host).v4), (Value.int .u32 (((a).host).addr : Int)), (Value.int .i64 (a).port)]), (Value.agg #[(Value.bool (b).opaq), (Value.int .i64 (b).id), (Value.string ⟨((b).scheme).toArray⟩), (Value.string ⟨(((b).host).name).toArray⟩), (Value.bool ((b).host).v4), (Value.int .u32 (((b).host).addr : Int)), (Value.int .i64 (b).port)]), v] w (Ret w (.bool (Gl.sameSite a b S))) := by
  have hR : Gl.sameSite a b S = if a.opaq || b.opaq then Gl.originSame a b else Gl.originSite a S == Gl.originSite b S := rfl
  have hsame := fun W => origin_same a b W
  have hsa := fun W (hW : Below w.heap.size w W) => origin_site a v S W (hE.below hW) ha (hv.below hW)
  have hsb := fun W (hW : Below w.heap.size w W) => origin_site b v S W (hE.below hW) hb0 (hv.below hW)
  generalize Gl.sameSite a b S = R at *
  generalize Gl.originSame a b = R1 at *
  generalize Gl.originSite a S = xa at *
  generalize Gl.originSite b S = xb at *
  obtain ⟨hvA, hvc, rfl, hv1, hv2, _⟩ := hv.strs
  clear hv
  obtain ⟨q, i, s, h, p⟩ := a
  obtain ⟨r, j, t, g, o⟩ := b
  simp only at hR hsame hsa hsb ⊢
  replace hsame := Lib.hid hsame
  replace hsa := Lib.hid hsa
  replace hsb := Lib.hid hsb
  by_cases hq : (q || r) = true
  · have hf : Hid (R1 = R) := Lib.hid (by rw [hR, if_pos hq])
    rw [hf.out] at hsame
    clear hR
    cases q <;> cases r
    · cases hq
    all_goals
      go_enter Tryz.func57, Tryz.ntmps57
      go_wp2_with (go_at_call 58; refine (hsame.out _).mono ?_; rintro e w1 ⟨rfl, hb⟩; obtain ⟨hc, hfz⟩ := bcell hb; have hz := hb.size; (try simp at hz); (try have hz0 := lt_ hb w.heap.size); (try have hz1 := lt_ hb (w.heap.size + 1)); (try have hz2 := lt_ hb (w.heap.size + 2)); (try have hz3 := lt_ hb (w.heap.size + 3)); (try have hcA := fun o => hc w.heap.size o sz_); (try have hcB := fun o => hc (w.heap.size + 1) o sz_); (try (have i := cf_ hb g; obtain ⟨hcGg, hfGg, hzGg⟩ := i)))
      go_ret
      exact ⟨by rfl, bw_⟩
  · have hf : Hid ((xa == xb) = R) := Lib.hid (by rw [hR, if_neg hq])
    have hf1 := hf.out
    clear hR hf hsame
    cases q <;> cases r
    · go_enter Tryz.func57, Tryz.ntmps57
      go_wp2_with fail
      generalize hW0 : ((w.alloc (Obj.cells #[(.bool false), (.int .i64 i), (Value.string ⟨(s).toArray⟩), (Value.string ⟨((h).name).toArray⟩), (Value.bool (h).v4), (Value.int .u32 ((h).addr : Int)), (.int .i64 p)] 35)).alloc (Obj.cells #[(.bool false), (.int .i64 j), (Value.string ⟨(t).toArray⟩), (Value.string ⟨((g).name).toArray⟩), (Value.bool (g).v4), (Value.int .u32 ((g).addr : Int)), (.int .i64 o)] 35)) = W0
      have hw0 : Below w.heap.size w W0 := by rw [← hW0]; (exact bw_)
      have hBA : Blk W0 (w.heap.size) 35 #[(.bool false), (.int .i64 i), (Value.string ⟨(s).toArray⟩), (Value.string ⟨((h).name).toArray⟩), (Value.bool (h).v4), (Value.int .u32 ((h).addr : Int)), (.int .i64 p)] := by rw [← hW0]; exact (Blk.alloc (Blk.new _ _ _) _)
      have hBB : Blk W0 (w.heap.size + 1) 35 #[(.bool false), (.int .i64 j), (Value.string ⟨(t).toArray⟩), (Value.string ⟨((g).name).toArray⟩), (Value.bool (g).v4), (Value.int .u32 ((g).addr : Int)), (.int .i64 o)] := by rw [← hW0]; exact (by have := Blk.new (w.alloc (Obj.cells #[(.bool false), (.int .i64 i), (Value.string ⟨(s).toArray⟩), (Value.string ⟨((h).name).toArray⟩), (Value.bool (h).v4), (Value.int .u32 ((h).addr : Int)), (.int .i64 p)] 35)) 35 #[(.bool false), (.int .i64 j), (Value.string ⟨(t).toArray⟩), (Value.string ⟨((g).name).toArray⟩), (Value.bool (g).v4), (Value.int .u32 ((g).addr : Int)), (.int .i64 o)]; simpa [World.size_alloc] using this)
      have hAl := hBA.lt
      have hAc := hBA.cell
      have hAf := hBA.frozen
      have hBl := hBB.lt
      have hBc := hBB.cell
      have hBf := hBB.frozen
      clear hW0
      go_region_held3 (fun W => Below w.heap.size w W ∧ w.heap.size < W.heap.size ∧ w.heap.size + 1 < W.heap.size ∧ (∀ n0, W.cell? ⟨w.heap.size, n0, none⟩ = (#[(.bool false), (.int .i64 i), (Value.string ⟨(s).toArray⟩), (Value.string ⟨((h).name).toArray⟩), (Value.bool (h).v4), (Value.int .u32 ((h).addr : Int)), (.int .i64 p)] : Array Value)[n0]?) ∧ (∀ n0, W.cell? ⟨w.heap.size + 1, n0, none⟩ = (#[(.bool false), (.int .i64 j), (Value.string ⟨(t).toArray⟩), (Value.string ⟨((g).name).toArray⟩), (Value.bool (g).v4), (Value.int .u32 ((g).addr : Int)), (.int .i64 o)] : Array Value)[n0]?)) ((refine ⟨bw_, ?_⟩; simp [*]))
        (first | ((first | (go_at_call 88; refine (hsa.out _ (bw_)).mono ?_) | (go_at_call 88; refine (hsb.out _ (bw_)).mono ?_)); rintro e w1 ⟨rfl, hb⟩; obtain ⟨hc, hfz⟩ := bcell hb; have hz := hb.size; (try simp at hz); (try have hz0 := lt_ hb w.heap.size); (try have hz1 := lt_ hb (w.heap.size + 1)); (try have hz2 := lt_ hb (w.heap.size + 2)); (try have hz3 := lt_ hb (w.heap.size + 3)); (try have hcA := fun o => hc w.heap.size o sz_); (try have hcB := fun o => hc (w.heap.size + 1) o sz_); (try (have i := cf_ hb g; obtain ⟨hcGg, hfGg, hzGg⟩ := i))))
      all_goals go_wp2_with fail
      all_goals go_ret
      all_goals exact ⟨rfl, bw_⟩
    · exact absurd rfl hq
    · exact absurd rfl hq
    · exact absurd rfl hq

theorem ref4_site (o : Gl.Origin) (v : Value) (S : List (List UInt8)) (w : World) (hE : Env w) (ho : OFits o) (hv : Sufs w v S) : Calls Tryz.prog 125 #[(Value.agg #[(Value.bool (o).opaq), (Value.int .i64 (o).id), (Value.string ⟨((o).scheme).toArray⟩), (Value.string ⟨(((o).host).name).toArray⟩), (Value.bool ((o).host).v4), (Value.int .u32 (((o).host).addr : Int)), (Value.int .i64 (o).port)]), v] w (Ret w ((Value.string ⟨(Gl.originSite o S).toArray⟩))) := by
  have hR : Gl.originSite o S = if o.opaq then Gl.nullT else Gl.siteOf o.host S := rfl
  generalize Gl.originSite o S = R at *
  obtain ⟨q, i, s, h, p⟩ := o
  simp only at hR ⊢
  obtain ⟨hvA, hvc, hve, hv1, hv2, _⟩ := hv.strs
  cases q
  · have hs : ∀ W, Below w.heap.size w W → Calls Tryz.prog 157 #[(Value.agg #[(Value.string ⟨((h).name).toArray⟩), (Value.bool (h).v4), (Value.int .u32 ((h).addr : Int))]), v] W (Ret W ((Value.string ⟨(R).toArray⟩))) := fun W hW => by
      rw [hR]
      have hvW := hv.below hW
      exact ref2_site h v S W (hE.below hW) ho.addr ho.name hvW.strs hvW.few hvW.short
    subst hve
    clear hR
    replace hs := Lib.hid hs
    go_enter Tryz.func125, Tryz.ntmps125
    go_wp2_with (go_at_call 157; refine (hs.out _ (bw_)).mono ?_; rintro e w1 ⟨rfl, hb⟩; obtain ⟨hc, hfz⟩ := bcell hb; have hz := hb.size; (try simp at hz); (try have hz0 := lt_ hb w.heap.size); (try have hz1 := lt_ hb (w.heap.size + 1)); (try have hz2 := lt_ hb (w.heap.size + 2)); (try have hz3 := lt_ hb (w.heap.size + 3)); (try have hcA := fun o => hc w.heap.size o sz_); (try have hcB := fun o => hc (w.heap.size + 1) o sz_))
    go_ret
    exact ⟨by rfl, bw_⟩
  · subst hve
    have hf : Hid (R = [110, 117, 108, 108]) := Lib.hid (by rw [hR]; rfl)
    clear hR
    go_enter Tryz.func125, Tryz.ntmps125
    go_wp2
    go_ret
    exact ⟨by rw [hf.out] <;> rfl, bw_⟩
end Go.Proofs.YtbafofldgkigmaaGreatDoor
