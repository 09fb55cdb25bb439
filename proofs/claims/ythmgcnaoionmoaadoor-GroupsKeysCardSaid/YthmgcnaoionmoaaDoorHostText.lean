/- A host's text, of the program and of the reference. -/
import Derived.Test.YthmgcnaoionmoaaDoorLib
import Derived.Lib.ItoaLen
namespace Go.Proofs.YthmgcnaoionmoaaDoor
open Go.RowKit

def fourTo (a : Nat) : Nat → List UInt8
  | 0 => []
  | k + 1 => fourTo a k ++ (if k = 0 then [] else [46]) ++ Gl.four a k
theorem four_len (a i : Nat) : (Gl.four a i).length ≤ 21 := Lib.itoa_length_le _ (by omega) (by omega)
theorem fourTo_len (a k : Nat) (_ : a < 4294967296) (hk : k ≤ 4) : (fourTo a k).length ≤ 100 := by
  rcases (show k = 0 ∨ k = 1 ∨ k = 2 ∨ k = 3 ∨ k = 4 from by omega) with rfl | rfl | rfl | rfl | rfl <;> simp [fourTo] <;> have h0 := four_len a 0 <;> have h1 := four_len a 1 <;> have h2 := four_len a 2 <;> have h3 := four_len a 3 <;> omega
theorem hostText_v4 (h : Gl.Host) (hv : h.v4 = true) : Gl.hostText h = fourTo h.addr 4 := by
  simp [Gl.hostText, hv, fourTo]

theorem and255 (k : IntKind) (hk : k = .i64 ∨ k = .u32) (n : Nat) (hn : n < 4294967296) : bits .and k (n : Int) 255 = ((n % 256 : Nat) : Int) := by
  have h0 : n % 256 < 256 := Nat.mod_lt _ (by omega)
  have key : ∀ m : Nat, 32 ≤ m → (BitVec.ofInt m (n : Int) &&& BitVec.ofInt m ((255 : Nat) : Int)).toNat = n % 256 := by
    intro m hm
    have h1 : 2 ^ 32 ≤ 2 ^ m := Nat.pow_le_pow_right (by omega) hm
    rw [BitVec.toNat_and, BitVec.ofInt_natCast, BitVec.ofInt_natCast, BitVec.toNat_ofNat, BitVec.toNat_ofNat, Nat.mod_eq_of_lt (by omega), Nat.mod_eq_of_lt (by omega)]
    exact Nat.and_two_pow_sub_one_eq_mod n 8
  rcases hk with rfl | rfl
  · show IntKind.i64.wrap ((BitVec.ofInt 64 (n : Int) &&& BitVec.ofInt 64 ((255 : Nat) : Int)).toNat : Int) = _
    rw [key 64 (by omega), IntKind.wrap_i64]
    omega
  · show IntKind.u32.wrap ((BitVec.ofInt 32 (n : Int) &&& BitVec.ofInt 32 ((255 : Nat) : Int)).toNat : Int) = _
    rw [key 32 (by omega), IntKind.wrap_u32]
    omega

set_option maxHeartbeats 1000000 in
theorem ref2_text (h : Gl.Host) (w : World) (hE : Env w) (ha : h.addr < 4294967296) :
    Calls Tryd.prog 61 #[(Value.agg #[(Value.string ⟨((h).name).toArray⟩), (Value.bool (h).v4), (Value.int .u32 ((h).addr : Int))])] w (Ret w ((Value.string ⟨(Gl.hostText h).toArray⟩))) := by
  cases hv : h.v4 with
  | false =>
    have hR : Hid (Gl.hostText h = h.name) := Lib.hid (by simp [Gl.hostText, hv])
    go_enter Tryd.func61, Tryd.ntmps61
    go_wp2
    go_ret
    exact ⟨by rw [hR.out]; rfl, by (repeat' first | (with_reducible exact Below.refl _ _) | (with_reducible refine Below.setCell ?_ (by first | omega | (simp; done) | (simp; omega)) _) | (with_reducible refine Below.alloc ?_ (by first | omega | (simp; done) | (simp; omega)) _) | refine below_drewN ?_ _ | refine Below.drew ?_ | (refine below_thru (by assumption) ?_ (by first | omega | (simp; done) | (simp; omega))) | exact Below.refl _ _)⟩
  | true =>
    have hR := hostText_v4 h hv
    generalize Gl.hostText h = R at *
    replace hR := Lib.hid hR
    generalize h.addr = a at *
    go_enter Tryd.func61, Tryd.ntmps61
    go_wp2
    go_loopw [3, 4] (fun t i wr => ∃ k : Nat, k ≤ 4 ∧ i = .int .i64 k ∧ t = (Value.string ⟨(fourTo a k).toArray⟩) ∧ Below w.heap.size w wr ∧ Blk wr w.heap.size 25 #[(Value.string ⟨(h.name).toArray⟩), Value.bool true, Value.int .u32 (a : Int)]) (fun _ i _ => 4 - (intOf i).toNat)
    case atStart => exact ⟨0, by omega, rfl, rfl, by (repeat' first | (with_reducible exact Below.refl _ _) | (with_reducible refine Below.setCell ?_ (by first | omega | (simp; done) | (simp; omega)) _) | (with_reducible refine Below.alloc ?_ (by first | omega | (simp; done) | (simp; omega)) _) | refine below_drewN ?_ _ | refine Below.drew ?_ | (refine below_thru (by assumption) ?_ (by first | omega | (simp; done) | (simp; omega))) | exact Below.refl _ _), Blk.new w _ _⟩
    case round =>
      obtain ⟨k, hk, rfl, rfl, hw, hb⟩ := hrel
      have hc := hb.cell
      have ha' : (a : Int) ≤ 4294967295 := by omega
      have hfl := fourTo_len a k ha hk
      by_cases hlt : k < 4
      · rcases (show k = 0 ∨ k = 1 ∨ k = 2 ∨ k = 3 from by omega) with rfl | rfl | rfl | rfl
        · have hand : bits .and .i64 ((a : Int) / 16777216) 255 = (a : Int) / 16777216 % 256 := and255 .i64 (Or.inl rfl) (a / 16777216) (by omega)
          have hf : Hid (Lib.itoa ((a : Int) / 16777216 % 256) = Gl.four a 0) := Lib.hid (by simp [Gl.four])
          have hfl2 := four_len a 0
          go_wp2_with (go_at_call 60; refine (itoa_any _ (by omega) (by omega) _ (hE.below hw)).mono ?_; rintro e w1 ⟨rfl, hb1⟩; rw [hf.out])
          have hbb := hb.below hb1 (by have := hb.lt; exact this)
          go_roundw
          case rel => exact ⟨1, by omega, rfl, by simp [fourTo], hw.trans (hb1.mono hw.size), hbb⟩
          case measure => simp [intOf]
        · have hand : bits .and .i64 ((a : Int) / 65536) 255 = (a : Int) / 65536 % 256 := and255 .i64 (Or.inl rfl) (a / 65536) (by omega)
          have hf : Hid (Lib.itoa ((a : Int) / 65536 % 256) = Gl.four a 1) := Lib.hid (by simp [Gl.four])
          have hfl2 := four_len a 1
          go_wp2_with (go_at_call 60; refine (itoa_any _ (by omega) (by omega) _ (hE.below hw)).mono ?_; rintro e w1 ⟨rfl, hb1⟩; rw [hf.out])
          have hbb := hb.below hb1 (by have := hb.lt; exact this)
          go_roundw
          case rel => exact ⟨2, by omega, rfl, by simp [fourTo], hw.trans (hb1.mono hw.size), hbb⟩
          case measure => simp [intOf]
        · have hand : bits .and .i64 ((a : Int) / 256) 255 = (a : Int) / 256 % 256 := and255 .i64 (Or.inl rfl) (a / 256) (by omega)
          have hf : Hid (Lib.itoa ((a : Int) / 256 % 256) = Gl.four a 2) := Lib.hid (by simp [Gl.four])
          have hfl2 := four_len a 2
          go_wp2_with (go_at_call 60; refine (itoa_any _ (by omega) (by omega) _ (hE.below hw)).mono ?_; rintro e w1 ⟨rfl, hb1⟩; rw [hf.out])
          have hbb := hb.below hb1 (by have := hb.lt; exact this)
          go_roundw
          case rel => exact ⟨3, by omega, rfl, by simp [fourTo], hw.trans (hb1.mono hw.size), hbb⟩
          case measure => simp [intOf]
        · have hand : bits .and .i64 (a : Int) 255 = (a : Int) % 256 := and255 .i64 (Or.inl rfl) (a) (by omega)
          have hf : Hid (Lib.itoa ((a : Int) % 256) = Gl.four a 3) := Lib.hid (by simp [Gl.four])
          have hfl2 := four_len a 3
          go_wp2_with (go_at_call 60; refine (itoa_any _ (by omega) (by omega) _ (hE.below hw)).mono ?_; rintro e w1 ⟨rfl, hb1⟩; rw [hf.out])
          have hbb := hb.below hb1 (by have := hb.lt; exact this)
          go_roundw
          case rel => exact ⟨4, by omega, rfl, by simp [fourTo], hw.trans (hb1.mono hw.size), hbb⟩
          case measure => simp [intOf]
      · obtain rfl : k = 4 := by omega
        go_wp2
        go_ret
        exact ⟨by rw [hR.out]; rfl, hw⟩
def fourCell (a k j : Nat) : Value := if j < k then (Value.string ⟨(Gl.four a j).toArray⟩) else (Value.string ⟨(([] : List UInt8)).toArray⟩)
theorem fourCell_lt {a k j : Nat} (h : j < k) : fourCell a k j = (Value.string ⟨(Gl.four a j).toArray⟩) := if_pos h
theorem fourCell_ge {a k j : Nat} (h : k ≤ j) : fourCell a k j = (Value.string ⟨(([] : List UInt8)).toArray⟩) := if_neg (by omega)

set_option maxHeartbeats 1000000 in
theorem host_text (h : Gl.Host) (w : World) (hE : Env w) (ha : h.addr < 4294967296) :
    Calls Tryd.prog 59 #[(Value.agg #[(Value.string ⟨((h).name).toArray⟩), (Value.bool (h).v4), (Value.int .u32 ((h).addr : Int))])] w (Ret w ((Value.string ⟨(Gl.hostText h).toArray⟩))) := by
  cases hv : h.v4 with
  | false =>
    have hR : Hid (Gl.hostText h = h.name) := Lib.hid (by simp [Gl.hostText, hv])
    go_enter Tryd.func59, Tryd.ntmps59
    go_wp2
    go_ret
    exact ⟨by rw [hR.out]; rfl, by (repeat' first | (with_reducible exact Below.refl _ _) | (with_reducible refine Below.setCell ?_ (by first | omega | (simp; done) | (simp; omega)) _) | (with_reducible refine Below.alloc ?_ (by first | omega | (simp; done) | (simp; omega)) _) | refine below_drewN ?_ _ | refine Below.drew ?_ | (refine below_thru (by assumption) ?_ (by first | omega | (simp; done) | (simp; omega))) | exact Below.refl _ _)⟩
  | true =>
    have hR := hostText_v4 h hv
    have hj : Hid (Lib.join [Gl.four h.addr 0, Gl.four h.addr 1, Gl.four h.addr 2, Gl.four h.addr 3] [46] = fourTo h.addr 4) := Lib.hid (by simp [Lib.join, List.intercalate, fourTo])
    generalize Gl.hostText h = R at *
    replace hR := Lib.hid hR
    generalize h.addr = a at *
    go_enter Tryd.func59, Tryd.ntmps59
    go_wp2
    go_loopw [4, 10] (fun _ i wr => ∃ k : Nat, k ≤ 4 ∧ i = .int .i64 k ∧ Below w.heap.size w wr ∧ Blk wr w.heap.size 25 #[(Value.string ⟨(h.name).toArray⟩), Value.bool true, Value.int .u32 (a : Int)] ∧
      Blk wr (w.heap.size + 1) 105 #[fourCell a k 0, fourCell a k 1, fourCell a k 2, fourCell a k 3]) (fun _ i _ => 4 - (intOf i).toNat)
    case atStart =>
      refine ⟨0, by omega, rfl, by (repeat' first | (with_reducible exact Below.refl _ _) | (with_reducible refine Below.setCell ?_ (by first | omega | (simp; done) | (simp; omega)) _) | (with_reducible refine Below.alloc ?_ (by first | omega | (simp; done) | (simp; omega)) _) | refine below_drewN ?_ _ | refine Below.drew ?_ | (refine below_thru (by assumption) ?_ (by first | omega | (simp; done) | (simp; omega))) | exact Below.refl _ _), (Blk.new w _ _).alloc _, ?_⟩
      have := Blk.new (w.alloc (Obj.cells #[(Value.string ⟨(h.name).toArray⟩), Value.bool true, Value.int .u32 (a : Int)] 25)) 105 #[fourCell a 0 0, fourCell a 0 1, fourCell a 0 2, fourCell a 0 3]
      rw [World.size_alloc] at this
      exact this
    case round =>
      obtain ⟨k, hk, rfl, hw, b1, b2⟩ := hrel
      have c1 := b1.cell
      have c2 := b2.cell
      have c3 := b2.frozen
      have ha' : (a : Int) ≤ 4294967295 := by omega
      by_cases hlt : k < 4
      · rcases (show k = 0 ∨ k = 1 ∨ k = 2 ∨ k = 3 from by omega) with rfl | rfl | rfl | rfl
        · have hand : bits .and .u32 ((a : Int) / 16777216) 255 = (a : Int) / 16777216 % 256 := and255 .u32 (Or.inr rfl) (a / 16777216) (by omega)
          have hf : Hid (Lib.itoa ((a : Int) / 16777216 % 256) = Gl.four a 0) := Lib.hid (by simp [Gl.four])
          go_wp2_with (go_at_call 60; refine (itoa_any _ (by omega) (by omega) _ (hE.below hw)).mono ?_; rintro e w1 ⟨rfl, hb1⟩; rw [hf.out]; have hbb1 := b1.below hb1 b1.lt; have hbb2 := b2.below hb1 b2.lt; have e1 := hbb1.cell; have e2 := hbb2.cell; have e3 := hbb2.frozen)
          have hset := hbb2.set_ 0 ((Value.string ⟨(Gl.four a 0).toArray⟩))
          have hfar := hbb1.far (p := ⟨w.heap.size + 1, 0, none⟩) (by simp) ((Value.string ⟨(Gl.four a 0).toArray⟩))
          have hbl := (hw.trans (hb1.mono hw.size)).setCell (p := ⟨w.heap.size + 1, 0, none⟩) (by simp) ((Value.string ⟨(Gl.four a 0).toArray⟩))
          go_roundw
          case rel => exact ⟨1, by omega, rfl, hbl, hfar, hset⟩
          case measure => simp [intOf]
        · have hand : bits .and .u32 ((a : Int) / 65536) 255 = (a : Int) / 65536 % 256 := and255 .u32 (Or.inr rfl) (a / 65536) (by omega)
          have hf : Hid (Lib.itoa ((a : Int) / 65536 % 256) = Gl.four a 1) := Lib.hid (by simp [Gl.four])
          go_wp2_with (go_at_call 60; refine (itoa_any _ (by omega) (by omega) _ (hE.below hw)).mono ?_; rintro e w1 ⟨rfl, hb1⟩; rw [hf.out]; have hbb1 := b1.below hb1 b1.lt; have hbb2 := b2.below hb1 b2.lt; have e1 := hbb1.cell; have e2 := hbb2.cell; have e3 := hbb2.frozen)
          have hset := hbb2.set_ 1 ((Value.string ⟨(Gl.four a 1).toArray⟩))
          have hfar := hbb1.far (p := ⟨w.heap.size + 1, 1, none⟩) (by simp) ((Value.string ⟨(Gl.four a 1).toArray⟩))
          have hbl := (hw.trans (hb1.mono hw.size)).setCell (p := ⟨w.heap.size + 1, 1, none⟩) (by simp) ((Value.string ⟨(Gl.four a 1).toArray⟩))
          go_roundw
          case rel => exact ⟨2, by omega, rfl, hbl, hfar, hset⟩
          case measure => simp [intOf]
        · have hand : bits .and .u32 ((a : Int) / 256) 255 = (a : Int) / 256 % 256 := and255 .u32 (Or.inr rfl) (a / 256) (by omega)
          have hf : Hid (Lib.itoa ((a : Int) / 256 % 256) = Gl.four a 2) := Lib.hid (by simp [Gl.four])
          go_wp2_with (go_at_call 60; refine (itoa_any _ (by omega) (by omega) _ (hE.below hw)).mono ?_; rintro e w1 ⟨rfl, hb1⟩; rw [hf.out]; have hbb1 := b1.below hb1 b1.lt; have hbb2 := b2.below hb1 b2.lt; have e1 := hbb1.cell; have e2 := hbb2.cell; have e3 := hbb2.frozen)
          have hset := hbb2.set_ 2 ((Value.string ⟨(Gl.four a 2).toArray⟩))
          have hfar := hbb1.far (p := ⟨w.heap.size + 1, 2, none⟩) (by simp) ((Value.string ⟨(Gl.four a 2).toArray⟩))
          have hbl := (hw.trans (hb1.mono hw.size)).setCell (p := ⟨w.heap.size + 1, 2, none⟩) (by simp) ((Value.string ⟨(Gl.four a 2).toArray⟩))
          go_roundw
          case rel => exact ⟨3, by omega, rfl, hbl, hfar, hset⟩
          case measure => simp [intOf]
        · have hand : bits .and .u32 (a : Int) 255 = (a : Int) % 256 := and255 .u32 (Or.inr rfl) (a) (by omega)
          have hf : Hid (Lib.itoa ((a : Int) % 256) = Gl.four a 3) := Lib.hid (by simp [Gl.four])
          go_wp2_with (go_at_call 60; refine (itoa_any _ (by omega) (by omega) _ (hE.below hw)).mono ?_; rintro e w1 ⟨rfl, hb1⟩; rw [hf.out]; have hbb1 := b1.below hb1 b1.lt; have hbb2 := b2.below hb1 b2.lt; have e1 := hbb1.cell; have e2 := hbb2.cell; have e3 := hbb2.frozen)
          have hset := hbb2.set_ 3 ((Value.string ⟨(Gl.four a 3).toArray⟩))
          have hfar := hbb1.far (p := ⟨w.heap.size + 1, 3, none⟩) (by simp) ((Value.string ⟨(Gl.four a 3).toArray⟩))
          have hbl := (hw.trans (hb1.mono hw.size)).setCell (p := ⟨w.heap.size + 1, 3, none⟩) (by simp) ((Value.string ⟨(Gl.four a 3).toArray⟩))
          go_roundw
          case rel => exact ⟨4, by omega, rfl, hbl, hfar, hset⟩
          case measure => simp [intOf]
      · obtain rfl : k = 4 := by omega
        have hst : Strs wr wr.heap.size (.slice (some ⟨w.heap.size + 1, 0, none⟩) 4 4) [Gl.four a 0, Gl.four a 1, Gl.four a 2, Gl.four a 3] := by
          refine ⟨_, 4, rfl, Nat.le_refl _, by unfold maxLen; omega, fun _ => ⟨w.heap.size + 1, 0, rfl, b2.lt, fun j hj => ?_⟩⟩
          rw [Nat.zero_add, c2]
          rcases (show j = 0 ∨ j = 1 ∨ j = 2 ∨ j = 3 from by simp at hj; omega) with rfl | rfl | rfl | rfl <;> rfl
        have hl := fourTo_len a 4 ha (by omega)
        go_wp2_with (go_at_call 86; refine (join_any _ [46] _ _ hst (by simp) (by rw [hj.out]; omega)).mono ?_; rintro e w1 ⟨rfl, hb1⟩; rw [hj.out])
        have hl2 := hw.trans (hb1.mono hw.size)
        go_wp2
        go_ret
        exact ⟨by rw [hR.out]; rfl, hl2⟩
end Go.Proofs.YthmgcnaoionmoaaDoor
