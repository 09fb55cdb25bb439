/- octet.Split: the parts of a text between a byte; the closures that it is made of. -/
import Derived.Test.YthmgcnaoionmoaaDoorSplit
import Derived.Test.YthmgcnaoionmoaaDoorRef1
namespace Go.Proofs.YthmgcnaoionmoaaDoor
open Go.RowKit

/-- What octet.cut holds between two bytes: blocks b (are empty parts wanted?) and b + 1 (the parts so far) are the call's own. -/
structure CutInv (w0 : World) (emp : Bool) (L : List (List UInt8)) (w : World) : Prop where
  below : Below w0.heap.size w0 w
  size : w0.heap.size + 2 ≤ w.heap.size
  ce : w.cell? ⟨w0.heap.size, 0, none⟩ = some (.bool emp)
  co : ∃ v, w.cell? ⟨w0.heap.size + 1, 0, none⟩ = some v ∧ Own w (w0.heap.size + 2) v L
  fo : w.frozen? ⟨w0.heap.size + 1, 0, none⟩ = false

theorem setCell_own {w : World} {B : Nat} {v : Value} {L : List (List UInt8)} (h : Own w B v L) {p : Addr} (hp : p.block < B) (u : Value) : Own (w.setCell p u) B v L :=
  ownsRow_setCell_below h hp u

theorem CutInv.put {w0 w w' : World} {emp : Bool} {L M : List (List UInt8)} {o : Obj} {v' : Value} (h : CutInv w0 emp L w) (hown : Own w' (w0.heap.size + 2) v' M) (hw : Below (w0.heap.size + 2) (w.alloc o) w') :
    CutInv w0 emp M (w'.setCell ⟨w0.heap.size + 1, 0, none⟩ v') := by
  obtain ⟨hb, hsz, hce, ⟨v, hco, _⟩, hfo⟩ := h
  have h1 : w'.cell? ⟨w0.heap.size + 1, 0, none⟩ = some v := by
    rw [hw.cell (p := ⟨w0.heap.size + 1, 0, none⟩) (by simp), World.cell?_alloc_lt w o _ (by simp; omega), hco]
  have hs := hw.size
  simp at hs
  refine ⟨?_, ?_, ?_, ⟨v', ?_, ?_⟩, ?_⟩
  · exact ((hb.alloc (by omega) o).trans (hw.mono (by omega))).setCell (by simp) v'
  · simp; omega
  · rw [World.cell?_setCell_other _ _ _ _ (by simp), hw.cell (p := ⟨w0.heap.size, 0, none⟩) (by simp), World.cell?_alloc_lt w o _ (by simp; omega), hce]
  · exact World.cell?_setCell_same' _ _ _ (by rw [h1]; rfl)
  · exact setCell_own hown (by simp) v'
  · rw [World.frozen?_setCell, hw.frozen (p := ⟨w0.heap.size + 1, 0, none⟩) (by simp), frozen_alloc _ _ _ (by simp; omega), hfo]

/-- 'put', where every part is wanted. -/
theorem octet_put (w0 : World) (p : List UInt8) (L : List (List UInt8)) (w : World) (hl : L.length ≤ 1099511627776) (h : CutInv w0 true L w) :
    Calls Tryd.prog 88 #[.string ⟨p.toArray⟩, .pointer (some ⟨w0.heap.size, 0, none⟩), .pointer (some ⟨w0.heap.size + 1, 0, none⟩)] w
      (fun e w' => e = .returned (.tuple #[]) ∧ CutInv w0 true (L ++ [p]) w') := by
  have H := Lib.hid h
  obtain ⟨hb, hsz, hce, ⟨v, hco, hown⟩, hfo⟩ := h
  obtain ⟨A, c, rfl, _⟩ := hown.strs
  go_enter Tryd.func88, Tryd.ntmps88
  go_wp2_with (at_builtin; refine wpList_app rfl _ _ rfl (w0.heap.size + 2) L _ rfl (hown.alloc _) p w.heap.size rfl ?_ hl (by simp; omega) ?_)
  case refine_1 => go_simp
  rintro v' w' hown' hw'
  have hfin := Lib.hid (H.out.put hown' hw')
  have hc' : w'.cell? ⟨w0.heap.size + 1, 0, none⟩ = some (.slice A L.length c) := by
    rw [hw'.cell (p := ⟨w0.heap.size + 1, 0, none⟩) (by simp), World.cell?_alloc_lt w _ _ (by simp; omega), hco]
  have hf' : w'.frozen? ⟨w0.heap.size + 1, 0, none⟩ = false := by
    rw [hw'.frozen (p := ⟨w0.heap.size + 1, 0, none⟩) (by simp), frozen_alloc _ _ _ (by simp; omega), hfo]
  obtain ⟨A', n', c', rfl⟩ := hown'.form
  clear hown hown'
  go_wp2
  go_end0
  exact ⟨rfl, hfin.out⟩

theorem octet_is (c d : UInt8) (b : Nat) (w : World) (h : w.cell? ⟨b, 0, none⟩ = some (.int .u8 (d.toNat : Int))) :
    Calls Tryd.prog 63 #[.int .u8 c.toNat, .pointer (some ⟨b, 0, none⟩)] w (Same w (.bool (c == d))) := by
  go_enter Tryd.func63, Tryd.ntmps63
  go_wp2
  go_ret
  exact ret_bool (by simp [← UInt8.toNat_inj]; omega)

set_option maxHeartbeats 1000000 in
theorem octet_cut (s : List UInt8) (c : UInt8) (b : Nat) (w : World) (hs : s.length ≤ 1099511627774) (hb : b < w.heap.size) (hc : w.cell? ⟨b, 0, none⟩ = some (.int .u8 (c.toNat : Int))) :
    Calls Tryd.prog 62 #[.string ⟨s.toArray⟩, .func (.func 63) #[] #[.pointer (some ⟨b, 0, none⟩)], .bool true] w (RetStrs w (Gl.split c s)) := by
  generalize hR : Gl.split c s = R
  replace hR := Lib.hid hR
  go_enter Tryd.func62, Tryd.ntmps62
  go_wp2_with fail
  go_loopw [9, 10, 14] (fun f _ i wr => ∃ (k m : Nat) (L : List (List UInt8)), m ≤ k ∧ k ≤ s.length ∧ i = .int .i64 k ∧ f = .int .i64 m ∧ L.length ≤ m ∧
      CutInv w true L wr ∧ Hid (L ++ Gl.splitGo c ((s.drop m).take (k - m)) (s.drop k) = R)) (fun _ _ i _ => s.length - (intOf i).toNat)
  case atStart =>
    refine ⟨0, 0, [], Nat.le_refl _, Nat.zero_le _, rfl, rfl, Nat.le_refl _, ⟨?_, ?_, ?_, ⟨.slice none 0 0, ?_, Own.nil _ _⟩, ?_⟩, Lib.hid (by simpa [Gl.split] using hR.out)⟩
    · exact ((Below.refl _ _).alloc (Nat.le_refl _) _).alloc (by simp) _
    · simp
    · go_simp
    · go_simp
    · go_simp
  case round =>
    obtain ⟨k, m, L, hmk, hk, rfl, rfl, hLm, hinv, hr⟩ := hrel
    have hci : wr.cell? ⟨b, 0, none⟩ = some (.int .u8 (c.toNat : Int)) := (hinv.below.cell (p := ⟨b, 0, none⟩) hb).trans hc
    by_cases hlt : k < s.length
    · rw [drop_cons hlt] at hr
      by_cases hx : s[k] = c
      · have hn : Hid ((L ++ [(s.drop m).take (k - m)]) ++ Gl.splitGo c [] (s.drop (k + 1)) = R) := Lib.hid (by rw [← hr.out, Gl.splitGo, if_pos hx]; simp)
        have his : Hid (∀ w, w.cell? ⟨b, 0, none⟩ = some (.int .u8 (c.toNat : Int)) → Calls Tryd.prog 63 #[.int .u8 (s[k].toNat : Int), .pointer (some ⟨b, 0, none⟩)] w (Same w (.bool true))) := Lib.hid (fun w h => by
          have := octet_is s[k] c b w h; rw [hx, beq_self_eq_true] at this; rw [hx]; exact this)
        clear hx hr
        go_wp2_with (first
          | (go_at_call 63; refine (his.out _ (by assumption)).mono ?_; rintro e w' ⟨rfl, rfl⟩)
          | (go_at_call 88; refine (octet_put w _ L _ (by omega) hinv).mono ?_; rintro e w' ⟨rfl, hinv'⟩))
        go_roundw
        case rel => exact ⟨k + 1, k + 1, _, Nat.le_refl _, by omega, by go_num, by go_num, by simp; omega, hinv', Lib.hid (by simpa using hn.out)⟩
        case measure => simp [intOf]; omega
      · have hn : Hid (L ++ Gl.splitGo c ((s.drop m).take (k + 1 - m)) (s.drop (k + 1)) = R) := Lib.hid (by
            rw [← hr.out, Gl.splitGo, if_neg hx, show k + 1 - m = (k - m) + 1 from by omega, List.take_succ_eq_append_getElem (by simp; omega), List.getElem_drop]
            simp [show m + (k - m) = k from by omega])
        have his : Hid (∀ w, w.cell? ⟨b, 0, none⟩ = some (.int .u8 (c.toNat : Int)) → Calls Tryd.prog 63 #[.int .u8 (s[k].toNat : Int), .pointer (some ⟨b, 0, none⟩)] w (Same w (.bool false))) := Lib.hid (fun w h => by
          have := octet_is s[k] c b w h; rw [beq_eq_false_iff_ne.2 hx] at this; exact this)
        clear hx hr
        go_wp2_with (go_at_call 63; refine (his.out _ (by assumption)).mono ?_; rintro e w' ⟨rfl, rfl⟩)
        go_roundw
        case rel => exact ⟨k + 1, m, L, by omega, by omega, by go_num, rfl, hLm, hinv, hn⟩
        case measure => simp [intOf]; omega
    · have hn : Hid (L ++ [s.drop m] = R) := Lib.hid (by rw [← hr.out, List.drop_eq_nil_of_le (show s.length ≤ k by omega), Gl.splitGo, List.take_of_length_le (by simp; omega)])
      clear hr
      go_wp2_with (go_at_call 88; refine (octet_put w _ L _ (by omega) hinv).mono ?_; rintro e w' ⟨rfl, hinv'⟩; obtain ⟨v', hco', hown'⟩ := hinv'.co; obtain ⟨A', n', c', rfl⟩ := hown'.form)
      go_ret
      refine ⟨_, rfl, ?_, hinv'.below⟩
      rw [← hn.out]
      exact hown'.mono (by omega)

theorem octet_split (s : List UInt8) (c : UInt8) (w : World) (hs : s.length ≤ 1099511627774) :
    Calls Tryd.prog 28 #[.string ⟨s.toArray⟩, .int .u8 c.toNat] w (RetStrs w (Gl.split c s)) := by
  generalize hR : Gl.split c s = R
  replace hR := Lib.hid hR
  go_enter Tryd.func28, Tryd.ntmps28
  go_wp2_with (go_at_call 62; refine (octet_cut s c w.heap.size _ hs (by simp) (by go_simp)).mono ?_; rintro e w' ⟨v, rfl, hv, hb⟩)
  go_ret
  refine ⟨_, rfl, ?_, ((Below.refl _ w).alloc (Nat.le_refl _) _).trans (hb.mono (by simp))⟩
  rw [← hR.out]
  exact hv.mono (by simp)
end Go.Proofs.YthmgcnaoionmoaaDoor
