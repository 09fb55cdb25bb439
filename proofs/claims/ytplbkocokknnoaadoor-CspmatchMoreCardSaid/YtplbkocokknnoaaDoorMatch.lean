/- cspmatch: which origins an expression means. -/
import Derived.Test.YtplbkocokknnoaaDoorEleven
import Derived.Test.YtplbkocokknnoaaDoorFour
import Derived.Test.YtplbkocokknnoaaDoorSrc
namespace Go.Proofs.YtplbkocokknnoaaDoor
open Go.RowKit
attribute [local irreducible] Calls
set_option maxRecDepth 100000 in
theorem csp_together (a b : List UInt8) (w : World) : Calls Tryd.prog 52 #[(Value.string ⟨(a).toArray⟩), (Value.string ⟨(b).toArray⟩)] w (Same w (.bool (Gl.together a b))) := by
  have hR : Gl.together a b = (a == b || (a == [104, 116, 116, 112] && b == [104, 116, 116, 112, 115])) := rfl
  generalize Gl.together a b = R at *
  cases h1 : (a == b) <;> cases h2 : (a == [104, 116, 116, 112]) <;> cases h3 : (b == [104, 116, 116, 112, 115])
  all_goals
    rw [h1, h2, h3] at hR
    replace hR := Lib.hid hR
    go_enter Tryd.func52, Tryd.ntmps52
    go_wp2
    go_ret
    exact ⟨by rw [hR.out] <;> rfl, rfl⟩
set_option maxRecDepth 100000 in
theorem csp_own (o : Gl.Origin) (w : World) : Calls Tryd.prog 53 #[(Value.agg #[(Value.bool (o).opaq), (Value.int .i64 (o).id), (Value.string ⟨((o).scheme).toArray⟩), (Value.string ⟨(((o).host).name).toArray⟩), (Value.bool ((o).host).v4), (Value.int .u32 (((o).host).addr : Int)), (Value.int .i64 (o).port)])] w (Ret w (.bool (Gl.ownPort o))) := by
  have hR : Gl.ownPort o = ((o.scheme == [104, 116, 116, 112] && o.port == 80) || (o.scheme == [104, 116, 116, 112, 115] && o.port == 443)) := rfl
  generalize Gl.ownPort o = R at *
  obtain ⟨q, i, s, h, p⟩ := o
  simp only at hR ⊢
  cases h1 : (s == [104, 116, 116, 112]) <;> cases h2 : (s == [104, 116, 116, 112, 115]) <;> cases h3 : (p == 80) <;> cases h4 : (p == 443)
  all_goals
    rw [h1, h2, h3, h4] at hR
    replace hR := Lib.hid hR
    go_enter Tryd.func53, Tryd.ntmps53
    go_wp2
    go_ret
    exact ⟨by rw [hR.out] <;> rfl, by (repeat' first | (with_reducible exact Below.refl _ _) | (with_reducible refine Below.setCell ?_ (by first | omega | (simp; done) | (simp; omega)) _) | (with_reducible refine Below.alloc ?_ (by first | omega | (simp; done) | (simp; omega)) _) | refine below_drewN ?_ _ | refine Below.drew ?_ | (refine below_thru (by assumption) ?_ (by first | omega | (simp; done) | (simp; omega))) | exact Below.refl _ _)⟩
theorem hasSuffix_at (l p : List UInt8) (w : World) (hl : l.length ≤ 9223372036854775807) {b : Bool} (h : p.isSuffixOf l = b) :
    Calls Tryd.prog 74 #[(Value.string ⟨(l).toArray⟩), (Value.string ⟨(p).toArray⟩)] w (Same w (.bool b)) :=
  (Tryd.strings_HasSuffix ⟨l.toArray⟩ ⟨p.toArray⟩ w hl).mono fun _ _ ⟨he, hw⟩ => ⟨by rw [he, ← h]; rfl, hw.symm⟩
theorem cutStar (l : List UInt8) (w : World) (h : ([42] : List UInt8).isPrefixOf l = true) :
    Calls Tryd.prog 43 #[(Value.string ⟨(l).toArray⟩), (Value.string ⟨([42]).toArray⟩)] w (Same w (.tuple #[(Value.string ⟨(l.tail).toArray⟩), .bool true])) := by
  have := cutPrefix_yes l [42] w h; rw [show l.drop ([42] : List UInt8).length = l.tail from List.drop_one] at this; exact this
theorem hostText_short (h : Gl.Host) (ha : h.addr < 4294967296) (hn : h.name.length ≤ 2147483647) : (Gl.hostText h).length ≤ 2147483647 := by
  cases hv : h.v4 with
  | true => rw [hostText_v4 h hv]; have := fourTo_len h.addr 4 ha (Nat.le_refl _); omega
  | false => unfold Gl.hostText; rw [hv]; exact hn
set_option maxRecDepth 100000 in
set_option maxHeartbeats 1000000 in
theorem csp_named (p : List UInt8) (o : Gl.Origin) (w : World) (hE : Env w) (ha : o.host.addr < 4294967296) (hn : o.host.name.length ≤ 2147483647) : Calls Tryd.prog 54 #[(Value.string ⟨(p).toArray⟩), (Value.agg #[(Value.bool (o).opaq), (Value.int .i64 (o).id), (Value.string ⟨((o).scheme).toArray⟩), (Value.string ⟨(((o).host).name).toArray⟩), (Value.bool ((o).host).v4), (Value.int .u32 (((o).host).addr : Int)), (Value.int .i64 (o).port)])] w (Ret w (.bool (Gl.named p (Gl.hostText o.host)))) := by
  have hR : Gl.named p (Gl.hostText o.host) = (p == [42] || p == Gl.hostText o.host || (([42] : List UInt8).isPrefixOf p && (decide (p.tail.length < (Gl.hostText o.host).length) && p.tail.isSuffixOf (Gl.hostText o.host)))) := by unfold Gl.named Gl.endsMore; rw [List.drop_one]
  have ht := fun W (hW : Below w.heap.size w W) => host_text o.host W (hE.below hW) ha
  have htl := hostText_short o.host ha hn
  have hcs := fun W (h : ([42] : List UInt8).isPrefixOf p = true) => cutStar p W h
  have hcn := fun W (h : ([42] : List UInt8).isPrefixOf p = false) => cutPrefix_no p [42] W h
  generalize Gl.named p (Gl.hostText o.host) = R at *
  generalize p.tail = e1 at *
  replace hcs := Lib.hid hcs
  replace hcn := Lib.hid hcn
  generalize Gl.hostText o.host = t at *
  obtain ⟨q, i, s, h, pp⟩ := o
  simp only at hR ht ⊢
  replace ht := Lib.hid ht
  cases h1 : (p == [42]) <;> cases h2 : (p == t) <;> cases h3 : ([42] : List UInt8).isPrefixOf p <;> cases h4 : decide (e1.length < t.length) <;> cases h5 : e1.isSuffixOf t
  all_goals
    rw [h1, h2, h3, h4, h5] at hR
    replace hR := Lib.hid hR
    replace h3 := Lib.hid h3
    replace h5 := Lib.hid h5
    go_enter Tryd.func54, Tryd.ntmps54
    go_wp2_with (first | (go_at_call 57; refine ( ht.out _ (by (repeat' first | (with_reducible exact Below.refl _ _) | (with_reducible refine Below.setCell ?_ (by first | omega | (simp; done) | (simp; omega)) _) | (with_reducible refine Below.alloc ?_ (by first | omega | (simp; done) | (simp; omega)) _) | refine below_drewN ?_ _ | refine Below.drew ?_ | (refine below_thru (by assumption) ?_ (by first | omega | (simp; done) | (simp; omega))) | exact Below.refl _ _))).mono ?_; rintro e w1 ⟨rfl, hb⟩; obtain ⟨hc, hfz⟩ := bcell hb; have hz := hb.size; (try simp at hz); (try have hz0 : w.heap.size < w1.heap.size := by omega); (try have hz1 : w.heap.size + 1 < w1.heap.size := by omega); (try have hz2 : w.heap.size + 2 < w1.heap.size := by omega); (try have hz3 : w.heap.size + 3 < w1.heap.size := by omega); (try have hcA := fun o => hc w.heap.size o (by first | omega | (simp; omega))); (try have hcB := fun o => hc (w.heap.size + 1) o (by first | omega | (simp; omega)))) | (go_at_call 43; refine ( hcs.out _ h3.out).mono ?_; rintro e w1 ⟨rfl, rfl⟩) | (go_at_call 43; refine ( hcn.out _ h3.out).mono ?_; rintro e w1 ⟨rfl, rfl⟩) | (go_at_call 74; refine ( hasSuffix_at _ _ _ (by omega) h5.out).mono ?_; rintro e w1 ⟨rfl, rfl⟩))
    go_ret
    exact ⟨by rw [hR.out] <;> rfl, by (repeat' first | (with_reducible exact Below.refl _ _) | (with_reducible refine Below.setCell ?_ (by first | omega | (simp; done) | (simp; omega)) _) | (with_reducible refine Below.alloc ?_ (by first | omega | (simp; done) | (simp; omega)) _) | refine below_drewN ?_ _ | refine Below.drew ?_ | (refine below_thru (by assumption) ?_ (by first | omega | (simp; done) | (simp; omega))) | exact Below.refl _ _)⟩
end Go.Proofs.YtplbkocokknnoaaDoor
