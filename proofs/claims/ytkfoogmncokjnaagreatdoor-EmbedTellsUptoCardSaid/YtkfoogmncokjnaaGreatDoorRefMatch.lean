/- glacisref11: which origins an expression means. -/
import Derived.Test.YtkfoogmncokjnaaGreatDoorEleven
import Derived.Test.YtkfoogmncokjnaaGreatDoorFour
import Derived.Test.YtkfoogmncokjnaaGreatDoorFourB
import Derived.Test.YtkfoogmncokjnaaGreatDoorRefSrc
import Derived.Deep.RegionHeld3
namespace Go.Proofs.YtkfoogmncokjnaaGreatDoor
open Go.RowKit
attribute [local irreducible] Calls
set_option maxRecDepth 100000 in
theorem ref11_together (a b : List UInt8) (w : World) : Calls Tryz.prog 99 #[(Value.string ⟨(a).toArray⟩), (Value.string ⟨(b).toArray⟩)] w (Same w (.bool (Gl.together a b))) := by
  have hR : Gl.together a b = (a == b || (a == [104, 116, 116, 112] && b == [104, 116, 116, 112, 115])) := rfl
  generalize Gl.together a b = R at *
  cases h1 : (a == b) <;> cases h2 : (a == [104, 116, 116, 112]) <;> cases h3 : (b == [104, 116, 116, 112, 115])
  all_goals
    rw [h1, h2, h3] at hR
    replace hR := Lib.hid hR
    go_enter Tryz.func99, Tryz.ntmps99
    go_wp2
    go_ret
    exact ⟨by rw [hR.out] <;> rfl, rfl⟩
set_option maxRecDepth 100000 in
theorem ref11_own (o : Gl.Origin) (w : World) : Calls Tryz.prog 137 #[(Value.agg #[(Value.bool (o).opaq), (Value.int .i64 (o).id), (Value.string ⟨((o).scheme).toArray⟩), (Value.string ⟨(((o).host).name).toArray⟩), (Value.bool ((o).host).v4), (Value.int .u32 (((o).host).addr : Int)), (Value.int .i64 (o).port)])] w (Ret w (.bool (Gl.ownPort o))) := by
  have hR : Gl.ownPort o = ((o.scheme == [104, 116, 116, 112] && o.port == 80) || (o.scheme == [104, 116, 116, 112, 115] && o.port == 443)) := rfl
  generalize Gl.ownPort o = R at *
  obtain ⟨q, i, s, h, p⟩ := o
  simp only at hR ⊢
  cases h1 : (s == [104, 116, 116, 112]) <;> cases h2 : (s == [104, 116, 116, 112, 115]) <;> cases h3 : (p == 80) <;> cases h4 : (p == 443)
  all_goals
    rw [h1, h2, h3, h4] at hR
    replace hR := Lib.hid hR
    go_enter Tryz.func137, Tryz.ntmps137
    go_wp2
    go_ret
    exact ⟨by rw [hR.out] <;> rfl, by (repeat' first | (with_reducible exact Below.refl _ _) | (with_reducible refine Below.setCell ?_ (by first | omega | (simp; done) | (simp; omega)) _) | (with_reducible refine Below.alloc ?_ (by first | omega | (simp; done) | (simp; omega)) _) | refine below_drewN ?_ _ | refine Below.drew ?_ | (refine below_thru (by assumption) ?_ (by first | omega | (simp; done) | (simp; omega))) | exact Below.refl _ _)⟩
set_option maxRecDepth 100000 in
set_option maxHeartbeats 4000000 in
theorem ref11_self (o self : Gl.Origin) (w : World) : Calls Tryz.prog 100 #[(Value.agg #[(Value.bool (o).opaq), (Value.int .i64 (o).id), (Value.string ⟨((o).scheme).toArray⟩), (Value.string ⟨(((o).host).name).toArray⟩), (Value.bool ((o).host).v4), (Value.int .u32 (((o).host).addr : Int)), (Value.int .i64 (o).port)]), (Value.agg #[(Value.bool (self).opaq), (Value.int .i64 (self).id), (Value.string ⟨((self).scheme).toArray⟩), (Value.string ⟨(((self).host).name).toArray⟩), (Value.bool ((self).host).v4), (Value.int .u32 (((self).host).addr : Int)), (Value.int .i64 (self).port)])] w (Ret w (.bool (Gl.selfM o self))) := by
  obtain ⟨q, i, t, h, p⟩ := o
  obtain ⟨r, j, u, g, n⟩ := self
  simp only
  have hR : Gl.selfM { opaq := q, id := i, scheme := t, host := h, port := p : Gl.Origin } { opaq := r, id := j, scheme := u, host := g, port := n : Gl.Origin } = (Gl.originSame { opaq := q, id := i, scheme := t, host := h, port := p : Gl.Origin } { opaq := r, id := j, scheme := u, host := g, port := n : Gl.Origin } || (!r && eqH g.name g.v4 (g.addr : Int) h.name h.v4 (h.addr : Int) && Gl.together u t && (n == p || (Gl.ownPort { opaq := q, id := i, scheme := t, host := h, port := p : Gl.Origin } && Gl.ownPort { opaq := r, id := j, scheme := u, host := g, port := n : Gl.Origin })))) := by unfold Gl.selfM eqH; rw [host_beq, int_beq n p]
  have hs := fun W => ref4_same { opaq := q, id := i, scheme := t, host := h, port := p : Gl.Origin } { opaq := r, id := j, scheme := u, host := g, port := n : Gl.Origin } W
  have ho1 := fun W => ref11_own { opaq := q, id := i, scheme := t, host := h, port := p : Gl.Origin } W
  have ho2 := fun W => ref11_own { opaq := r, id := j, scheme := u, host := g, port := n : Gl.Origin } W
  have htg := fun W => ref11_together u t W
  generalize Gl.selfM { opaq := q, id := i, scheme := t, host := h, port := p : Gl.Origin } { opaq := r, id := j, scheme := u, host := g, port := n : Gl.Origin } = R at *
  generalize Gl.originSame { opaq := q, id := i, scheme := t, host := h, port := p : Gl.Origin } { opaq := r, id := j, scheme := u, host := g, port := n : Gl.Origin } = sm at *
  generalize Gl.ownPort { opaq := q, id := i, scheme := t, host := h, port := p : Gl.Origin } = o1 at *
  generalize Gl.ownPort { opaq := r, id := j, scheme := u, host := g, port := n : Gl.Origin } = o2 at *
  generalize Gl.together u t = tg at *
  generalize heh : eqH g.name g.v4 (g.addr : Int) h.name h.v4 (h.addr : Int) = eh at *
  simp only at hs ho1 ho2
  replace hs := Lib.hid hs
  replace ho1 := Lib.hid ho1
  replace ho2 := Lib.hid ho2
  replace htg := Lib.hid htg
  cases sm
  · cases r
    · cases eh
      · skip
        replace hR := Lib.hid hR
        go_enter Tryz.func100, Tryz.ntmps100
        go_wp2_with (first | (go_at_call 137; refine ( ho1.out _).mono ?_; rintro e w1 ⟨rfl, hb⟩; obtain ⟨hc, hfz⟩ := bcell hb; have hz := hb.size; (try simp at hz); (try have hz0 : w.heap.size < w1.heap.size := by omega); (try have hz1 : w.heap.size + 1 < w1.heap.size := by omega); (try have hz2 : w.heap.size + 2 < w1.heap.size := by omega); (try have hz3 : w.heap.size + 3 < w1.heap.size := by omega); (try have hcA := fun o => hc w.heap.size o (by first | omega | (simp; omega))); (try have hcB := fun o => hc (w.heap.size + 1) o (by first | omega | (simp; omega))); (try have hcGg := fun o => hc g o (by first | omega | (simp; omega))); (try have hfGg := fun o => hfz g o (by first | omega | (simp; omega))); (try have hzGg : g < w1.heap.size := by omega)) | (go_at_call 137; refine ( ho2.out _).mono ?_; rintro e w1 ⟨rfl, hb⟩; obtain ⟨hc, hfz⟩ := bcell hb; have hz := hb.size; (try simp at hz); (try have hz0 : w.heap.size < w1.heap.size := by omega); (try have hz1 : w.heap.size + 1 < w1.heap.size := by omega); (try have hz2 : w.heap.size + 2 < w1.heap.size := by omega); (try have hz3 : w.heap.size + 3 < w1.heap.size := by omega); (try have hcA := fun o => hc w.heap.size o (by first | omega | (simp; omega))); (try have hcB := fun o => hc (w.heap.size + 1) o (by first | omega | (simp; omega))); (try have hcGg := fun o => hc g o (by first | omega | (simp; omega))); (try have hfGg := fun o => hfz g o (by first | omega | (simp; omega))); (try have hzGg : g < w1.heap.size := by omega)) | (go_at_call 35; refine ( hs.out _).mono ?_; rintro e w1 ⟨rfl, hb⟩; obtain ⟨hc, hfz⟩ := bcell hb; have hz := hb.size; (try simp at hz); (try have hz0 : w.heap.size < w1.heap.size := by omega); (try have hz1 : w.heap.size + 1 < w1.heap.size := by omega); (try have hz2 : w.heap.size + 2 < w1.heap.size := by omega); (try have hz3 : w.heap.size + 3 < w1.heap.size := by omega); (try have hcA := fun o => hc w.heap.size o (by first | omega | (simp; omega))); (try have hcB := fun o => hc (w.heap.size + 1) o (by first | omega | (simp; omega))); (try have hcGg := fun o => hc g o (by first | omega | (simp; omega))); (try have hfGg := fun o => hfz g o (by first | omega | (simp; omega))); (try have hzGg : g < w1.heap.size := by omega)) | (go_at_call 99; refine ( htg.out _).mono ?_; rintro e w1 ⟨rfl, rfl⟩))
        go_ret
        exact ⟨by rw [hR.out] <;> rfl, by (repeat' first | (with_reducible exact Below.refl _ _) | (with_reducible refine Below.setCell ?_ (by first | omega | (simp; done) | (simp; omega)) _) | (with_reducible refine Below.alloc ?_ (by first | omega | (simp; done) | (simp; omega)) _) | refine below_drewN ?_ _ | refine Below.drew ?_ | (refine below_thru (by assumption) ?_ (by first | omega | (simp; done) | (simp; omega))) | exact Below.refl _ _)⟩
      · cases tg
        · skip
          replace hR := Lib.hid hR
          go_enter Tryz.func100, Tryz.ntmps100
          go_wp2_with (first | (go_at_call 137; refine ( ho1.out _).mono ?_; rintro e w1 ⟨rfl, hb⟩; obtain ⟨hc, hfz⟩ := bcell hb; have hz := hb.size; (try simp at hz); (try have hz0 : w.heap.size < w1.heap.size := by omega); (try have hz1 : w.heap.size + 1 < w1.heap.size := by omega); (try have hz2 : w.heap.size + 2 < w1.heap.size := by omega); (try have hz3 : w.heap.size + 3 < w1.heap.size := by omega); (try have hcA := fun o => hc w.heap.size o (by first | omega | (simp; omega))); (try have hcB := fun o => hc (w.heap.size + 1) o (by first | omega | (simp; omega))); (try have hcGg := fun o => hc g o (by first | omega | (simp; omega))); (try have hfGg := fun o => hfz g o (by first | omega | (simp; omega))); (try have hzGg : g < w1.heap.size := by omega)) | (go_at_call 137; refine ( ho2.out _).mono ?_; rintro e w1 ⟨rfl, hb⟩; obtain ⟨hc, hfz⟩ := bcell hb; have hz := hb.size; (try simp at hz); (try have hz0 : w.heap.size < w1.heap.size := by omega); (try have hz1 : w.heap.size + 1 < w1.heap.size := by omega); (try have hz2 : w.heap.size + 2 < w1.heap.size := by omega); (try have hz3 : w.heap.size + 3 < w1.heap.size := by omega); (try have hcA := fun o => hc w.heap.size o (by first | omega | (simp; omega))); (try have hcB := fun o => hc (w.heap.size + 1) o (by first | omega | (simp; omega))); (try have hcGg := fun o => hc g o (by first | omega | (simp; omega))); (try have hfGg := fun o => hfz g o (by first | omega | (simp; omega))); (try have hzGg : g < w1.heap.size := by omega)) | (go_at_call 35; refine ( hs.out _).mono ?_; rintro e w1 ⟨rfl, hb⟩; obtain ⟨hc, hfz⟩ := bcell hb; have hz := hb.size; (try simp at hz); (try have hz0 : w.heap.size < w1.heap.size := by omega); (try have hz1 : w.heap.size + 1 < w1.heap.size := by omega); (try have hz2 : w.heap.size + 2 < w1.heap.size := by omega); (try have hz3 : w.heap.size + 3 < w1.heap.size := by omega); (try have hcA := fun o => hc w.heap.size o (by first | omega | (simp; omega))); (try have hcB := fun o => hc (w.heap.size + 1) o (by first | omega | (simp; omega))); (try have hcGg := fun o => hc g o (by first | omega | (simp; omega))); (try have hfGg := fun o => hfz g o (by first | omega | (simp; omega))); (try have hzGg : g < w1.heap.size := by omega)) | (go_at_call 99; refine ( htg.out _).mono ?_; rintro e w1 ⟨rfl, rfl⟩))
          go_ret
          exact ⟨by rw [hR.out] <;> rfl, by (repeat' first | (with_reducible exact Below.refl _ _) | (with_reducible refine Below.setCell ?_ (by first | omega | (simp; done) | (simp; omega)) _) | (with_reducible refine Below.alloc ?_ (by first | omega | (simp; done) | (simp; omega)) _) | refine below_drewN ?_ _ | refine Below.drew ?_ | (refine below_thru (by assumption) ?_ (by first | omega | (simp; done) | (simp; omega))) | exact Below.refl _ _)⟩
        · cases hpn : (n == p)
          · rw [hpn] at hR
            cases o1
            · skip
              replace hR := Lib.hid hR
              go_enter Tryz.func100, Tryz.ntmps100
              go_wp2_with (first | (go_at_call 137; refine ( ho1.out _).mono ?_; rintro e w1 ⟨rfl, hb⟩; obtain ⟨hc, hfz⟩ := bcell hb; have hz := hb.size; (try simp at hz); (try have hz0 : w.heap.size < w1.heap.size := by omega); (try have hz1 : w.heap.size + 1 < w1.heap.size := by omega); (try have hz2 : w.heap.size + 2 < w1.heap.size := by omega); (try have hz3 : w.heap.size + 3 < w1.heap.size := by omega); (try have hcA := fun o => hc w.heap.size o (by first | omega | (simp; omega))); (try have hcB := fun o => hc (w.heap.size + 1) o (by first | omega | (simp; omega))); (try have hcGg := fun o => hc g o (by first | omega | (simp; omega))); (try have hfGg := fun o => hfz g o (by first | omega | (simp; omega))); (try have hzGg : g < w1.heap.size := by omega)) | (go_at_call 137; refine ( ho2.out _).mono ?_; rintro e w1 ⟨rfl, hb⟩; obtain ⟨hc, hfz⟩ := bcell hb; have hz := hb.size; (try simp at hz); (try have hz0 : w.heap.size < w1.heap.size := by omega); (try have hz1 : w.heap.size + 1 < w1.heap.size := by omega); (try have hz2 : w.heap.size + 2 < w1.heap.size := by omega); (try have hz3 : w.heap.size + 3 < w1.heap.size := by omega); (try have hcA := fun o => hc w.heap.size o (by first | omega | (simp; omega))); (try have hcB := fun o => hc (w.heap.size + 1) o (by first | omega | (simp; omega))); (try have hcGg := fun o => hc g o (by first | omega | (simp; omega))); (try have hfGg := fun o => hfz g o (by first | omega | (simp; omega))); (try have hzGg : g < w1.heap.size := by omega)) | (go_at_call 35; refine ( hs.out _).mono ?_; rintro e w1 ⟨rfl, hb⟩; obtain ⟨hc, hfz⟩ := bcell hb; have hz := hb.size; (try simp at hz); (try have hz0 : w.heap.size < w1.heap.size := by omega); (try have hz1 : w.heap.size + 1 < w1.heap.size := by omega); (try have hz2 : w.heap.size + 2 < w1.heap.size := by omega); (try have hz3 : w.heap.size + 3 < w1.heap.size := by omega); (try have hcA := fun o => hc w.heap.size o (by first | omega | (simp; omega))); (try have hcB := fun o => hc (w.heap.size + 1) o (by first | omega | (simp; omega))); (try have hcGg := fun o => hc g o (by first | omega | (simp; omega))); (try have hfGg := fun o => hfz g o (by first | omega | (simp; omega))); (try have hzGg : g < w1.heap.size := by omega)) | (go_at_call 99; refine ( htg.out _).mono ?_; rintro e w1 ⟨rfl, rfl⟩))
              go_ret
              exact ⟨by rw [hR.out] <;> rfl, by (repeat' first | (with_reducible exact Below.refl _ _) | (with_reducible refine Below.setCell ?_ (by first | omega | (simp; done) | (simp; omega)) _) | (with_reducible refine Below.alloc ?_ (by first | omega | (simp; done) | (simp; omega)) _) | refine below_drewN ?_ _ | refine Below.drew ?_ | (refine below_thru (by assumption) ?_ (by first | omega | (simp; done) | (simp; omega))) | exact Below.refl _ _)⟩
            · cases o2
              all_goals
                replace hR := Lib.hid hR
                go_enter Tryz.func100, Tryz.ntmps100
                go_wp2_with (first | (go_at_call 137; refine ( ho1.out _).mono ?_; rintro e w1 ⟨rfl, hb⟩; obtain ⟨hc, hfz⟩ := bcell hb; have hz := hb.size; (try simp at hz); (try have hz0 : w.heap.size < w1.heap.size := by omega); (try have hz1 : w.heap.size + 1 < w1.heap.size := by omega); (try have hz2 : w.heap.size + 2 < w1.heap.size := by omega); (try have hz3 : w.heap.size + 3 < w1.heap.size := by omega); (try have hcA := fun o => hc w.heap.size o (by first | omega | (simp; omega))); (try have hcB := fun o => hc (w.heap.size + 1) o (by first | omega | (simp; omega))); (try have hcGg := fun o => hc g o (by first | omega | (simp; omega))); (try have hfGg := fun o => hfz g o (by first | omega | (simp; omega))); (try have hzGg : g < w1.heap.size := by omega)) | (go_at_call 137; refine ( ho2.out _).mono ?_; rintro e w1 ⟨rfl, hb⟩; obtain ⟨hc, hfz⟩ := bcell hb; have hz := hb.size; (try simp at hz); (try have hz0 : w.heap.size < w1.heap.size := by omega); (try have hz1 : w.heap.size + 1 < w1.heap.size := by omega); (try have hz2 : w.heap.size + 2 < w1.heap.size := by omega); (try have hz3 : w.heap.size + 3 < w1.heap.size := by omega); (try have hcA := fun o => hc w.heap.size o (by first | omega | (simp; omega))); (try have hcB := fun o => hc (w.heap.size + 1) o (by first | omega | (simp; omega))); (try have hcGg := fun o => hc g o (by first | omega | (simp; omega))); (try have hfGg := fun o => hfz g o (by first | omega | (simp; omega))); (try have hzGg : g < w1.heap.size := by omega)) | (go_at_call 35; refine ( hs.out _).mono ?_; rintro e w1 ⟨rfl, hb⟩; obtain ⟨hc, hfz⟩ := bcell hb; have hz := hb.size; (try simp at hz); (try have hz0 : w.heap.size < w1.heap.size := by omega); (try have hz1 : w.heap.size + 1 < w1.heap.size := by omega); (try have hz2 : w.heap.size + 2 < w1.heap.size := by omega); (try have hz3 : w.heap.size + 3 < w1.heap.size := by omega); (try have hcA := fun o => hc w.heap.size o (by first | omega | (simp; omega))); (try have hcB := fun o => hc (w.heap.size + 1) o (by first | omega | (simp; omega))); (try have hcGg := fun o => hc g o (by first | omega | (simp; omega))); (try have hfGg := fun o => hfz g o (by first | omega | (simp; omega))); (try have hzGg : g < w1.heap.size := by omega)) | (go_at_call 99; refine ( htg.out _).mono ?_; rintro e w1 ⟨rfl, rfl⟩))
                go_ret
                exact ⟨by rw [hR.out] <;> rfl, by (repeat' first | (with_reducible exact Below.refl _ _) | (with_reducible refine Below.setCell ?_ (by first | omega | (simp; done) | (simp; omega)) _) | (with_reducible refine Below.alloc ?_ (by first | omega | (simp; done) | (simp; omega)) _) | refine below_drewN ?_ _ | refine Below.drew ?_ | (refine below_thru (by assumption) ?_ (by first | omega | (simp; done) | (simp; omega))) | exact Below.refl _ _)⟩
          · rw [hpn] at hR
            replace hR := Lib.hid hR
            go_enter Tryz.func100, Tryz.ntmps100
            go_wp2_with (first | (go_at_call 137; refine ( ho1.out _).mono ?_; rintro e w1 ⟨rfl, hb⟩; obtain ⟨hc, hfz⟩ := bcell hb; have hz := hb.size; (try simp at hz); (try have hz0 : w.heap.size < w1.heap.size := by omega); (try have hz1 : w.heap.size + 1 < w1.heap.size := by omega); (try have hz2 : w.heap.size + 2 < w1.heap.size := by omega); (try have hz3 : w.heap.size + 3 < w1.heap.size := by omega); (try have hcA := fun o => hc w.heap.size o (by first | omega | (simp; omega))); (try have hcB := fun o => hc (w.heap.size + 1) o (by first | omega | (simp; omega))); (try have hcGg := fun o => hc g o (by first | omega | (simp; omega))); (try have hfGg := fun o => hfz g o (by first | omega | (simp; omega))); (try have hzGg : g < w1.heap.size := by omega)) | (go_at_call 137; refine ( ho2.out _).mono ?_; rintro e w1 ⟨rfl, hb⟩; obtain ⟨hc, hfz⟩ := bcell hb; have hz := hb.size; (try simp at hz); (try have hz0 : w.heap.size < w1.heap.size := by omega); (try have hz1 : w.heap.size + 1 < w1.heap.size := by omega); (try have hz2 : w.heap.size + 2 < w1.heap.size := by omega); (try have hz3 : w.heap.size + 3 < w1.heap.size := by omega); (try have hcA := fun o => hc w.heap.size o (by first | omega | (simp; omega))); (try have hcB := fun o => hc (w.heap.size + 1) o (by first | omega | (simp; omega))); (try have hcGg := fun o => hc g o (by first | omega | (simp; omega))); (try have hfGg := fun o => hfz g o (by first | omega | (simp; omega))); (try have hzGg : g < w1.heap.size := by omega)) | (go_at_call 35; refine ( hs.out _).mono ?_; rintro e w1 ⟨rfl, hb⟩; obtain ⟨hc, hfz⟩ := bcell hb; have hz := hb.size; (try simp at hz); (try have hz0 : w.heap.size < w1.heap.size := by omega); (try have hz1 : w.heap.size + 1 < w1.heap.size := by omega); (try have hz2 : w.heap.size + 2 < w1.heap.size := by omega); (try have hz3 : w.heap.size + 3 < w1.heap.size := by omega); (try have hcA := fun o => hc w.heap.size o (by first | omega | (simp; omega))); (try have hcB := fun o => hc (w.heap.size + 1) o (by first | omega | (simp; omega))); (try have hcGg := fun o => hc g o (by first | omega | (simp; omega))); (try have hfGg := fun o => hfz g o (by first | omega | (simp; omega))); (try have hzGg : g < w1.heap.size := by omega)) | (go_at_call 99; refine ( htg.out _).mono ?_; rintro e w1 ⟨rfl, rfl⟩))
            go_ret
            exact ⟨by rw [hR.out] <;> rfl, by (repeat' first | (with_reducible exact Below.refl _ _) | (with_reducible refine Below.setCell ?_ (by first | omega | (simp; done) | (simp; omega)) _) | (with_reducible refine Below.alloc ?_ (by first | omega | (simp; done) | (simp; omega)) _) | refine below_drewN ?_ _ | refine Below.drew ?_ | (refine below_thru (by assumption) ?_ (by first | omega | (simp; done) | (simp; omega))) | exact Below.refl _ _)⟩
    · skip
      replace hR := Lib.hid hR
      go_enter Tryz.func100, Tryz.ntmps100
      go_wp2_with (first | (go_at_call 137; refine ( ho1.out _).mono ?_; rintro e w1 ⟨rfl, hb⟩; obtain ⟨hc, hfz⟩ := bcell hb; have hz := hb.size; (try simp at hz); (try have hz0 : w.heap.size < w1.heap.size := by omega); (try have hz1 : w.heap.size + 1 < w1.heap.size := by omega); (try have hz2 : w.heap.size + 2 < w1.heap.size := by omega); (try have hz3 : w.heap.size + 3 < w1.heap.size := by omega); (try have hcA := fun o => hc w.heap.size o (by first | omega | (simp; omega))); (try have hcB := fun o => hc (w.heap.size + 1) o (by first | omega | (simp; omega))); (try have hcGg := fun o => hc g o (by first | omega | (simp; omega))); (try have hfGg := fun o => hfz g o (by first | omega | (simp; omega))); (try have hzGg : g < w1.heap.size := by omega)) | (go_at_call 137; refine ( ho2.out _).mono ?_; rintro e w1 ⟨rfl, hb⟩; obtain ⟨hc, hfz⟩ := bcell hb; have hz := hb.size; (try simp at hz); (try have hz0 : w.heap.size < w1.heap.size := by omega); (try have hz1 : w.heap.size + 1 < w1.heap.size := by omega); (try have hz2 : w.heap.size + 2 < w1.heap.size := by omega); (try have hz3 : w.heap.size + 3 < w1.heap.size := by omega); (try have hcA := fun o => hc w.heap.size o (by first | omega | (simp; omega))); (try have hcB := fun o => hc (w.heap.size + 1) o (by first | omega | (simp; omega))); (try have hcGg := fun o => hc g o (by first | omega | (simp; omega))); (try have hfGg := fun o => hfz g o (by first | omega | (simp; omega))); (try have hzGg : g < w1.heap.size := by omega)) | (go_at_call 35; refine ( hs.out _).mono ?_; rintro e w1 ⟨rfl, hb⟩; obtain ⟨hc, hfz⟩ := bcell hb; have hz := hb.size; (try simp at hz); (try have hz0 : w.heap.size < w1.heap.size := by omega); (try have hz1 : w.heap.size + 1 < w1.heap.size := by omega); (try have hz2 : w.heap.size + 2 < w1.heap.size := by omega); (try have hz3 : w.heap.size + 3 < w1.heap.size := by omega); (try have hcA := fun o => hc w.heap.size o (by first | omega | (simp; omega))); (try have hcB := fun o => hc (w.heap.size + 1) o (by first | omega | (simp; omega))); (try have hcGg := fun o => hc g o (by first | omega | (simp; omega))); (try have hfGg := fun o => hfz g o (by first | omega | (simp; omega))); (try have hzGg : g < w1.heap.size := by omega)) | (go_at_call 99; refine ( htg.out _).mono ?_; rintro e w1 ⟨rfl, rfl⟩))
      go_ret
      exact ⟨by rw [hR.out] <;> rfl, by (repeat' first | (with_reducible exact Below.refl _ _) | (with_reducible refine Below.setCell ?_ (by first | omega | (simp; done) | (simp; omega)) _) | (with_reducible refine Below.alloc ?_ (by first | omega | (simp; done) | (simp; omega)) _) | refine below_drewN ?_ _ | refine Below.drew ?_ | (refine below_thru (by assumption) ?_ (by first | omega | (simp; done) | (simp; omega))) | exact Below.refl _ _)⟩
  · skip
    replace hR := Lib.hid hR
    go_enter Tryz.func100, Tryz.ntmps100
    go_wp2_with (first | (go_at_call 137; refine ( ho1.out _).mono ?_; rintro e w1 ⟨rfl, hb⟩; obtain ⟨hc, hfz⟩ := bcell hb; have hz := hb.size; (try simp at hz); (try have hz0 : w.heap.size < w1.heap.size := by omega); (try have hz1 : w.heap.size + 1 < w1.heap.size := by omega); (try have hz2 : w.heap.size + 2 < w1.heap.size := by omega); (try have hz3 : w.heap.size + 3 < w1.heap.size := by omega); (try have hcA := fun o => hc w.heap.size o (by first | omega | (simp; omega))); (try have hcB := fun o => hc (w.heap.size + 1) o (by first | omega | (simp; omega))); (try have hcGg := fun o => hc g o (by first | omega | (simp; omega))); (try have hfGg := fun o => hfz g o (by first | omega | (simp; omega))); (try have hzGg : g < w1.heap.size := by omega)) | (go_at_call 137; refine ( ho2.out _).mono ?_; rintro e w1 ⟨rfl, hb⟩; obtain ⟨hc, hfz⟩ := bcell hb; have hz := hb.size; (try simp at hz); (try have hz0 : w.heap.size < w1.heap.size := by omega); (try have hz1 : w.heap.size + 1 < w1.heap.size := by omega); (try have hz2 : w.heap.size + 2 < w1.heap.size := by omega); (try have hz3 : w.heap.size + 3 < w1.heap.size := by omega); (try have hcA := fun o => hc w.heap.size o (by first | omega | (simp; omega))); (try have hcB := fun o => hc (w.heap.size + 1) o (by first | omega | (simp; omega))); (try have hcGg := fun o => hc g o (by first | omega | (simp; omega))); (try have hfGg := fun o => hfz g o (by first | omega | (simp; omega))); (try have hzGg : g < w1.heap.size := by omega)) | (go_at_call 35; refine ( hs.out _).mono ?_; rintro e w1 ⟨rfl, hb⟩; obtain ⟨hc, hfz⟩ := bcell hb; have hz := hb.size; (try simp at hz); (try have hz0 : w.heap.size < w1.heap.size := by omega); (try have hz1 : w.heap.size + 1 < w1.heap.size := by omega); (try have hz2 : w.heap.size + 2 < w1.heap.size := by omega); (try have hz3 : w.heap.size + 3 < w1.heap.size := by omega); (try have hcA := fun o => hc w.heap.size o (by first | omega | (simp; omega))); (try have hcB := fun o => hc (w.heap.size + 1) o (by first | omega | (simp; omega))); (try have hcGg := fun o => hc g o (by first | omega | (simp; omega))); (try have hfGg := fun o => hfz g o (by first | omega | (simp; omega))); (try have hzGg : g < w1.heap.size := by omega)) | (go_at_call 99; refine ( htg.out _).mono ?_; rintro e w1 ⟨rfl, rfl⟩))
    go_ret
    exact ⟨by rw [hR.out] <;> rfl, by (repeat' first | (with_reducible exact Below.refl _ _) | (with_reducible refine Below.setCell ?_ (by first | omega | (simp; done) | (simp; omega)) _) | (with_reducible refine Below.alloc ?_ (by first | omega | (simp; done) | (simp; omega)) _) | refine below_drewN ?_ _ | refine Below.drew ?_ | (refine below_thru (by assumption) ?_ (by first | omega | (simp; done) | (simp; omega))) | exact Below.refl _ _)⟩
theorem endsMore_eq (t p : Gl.Bs) : Gl.endsMore t p = (decide (p.length < t.length) && (t.drop (t.length - p.length) == p)) := by
  unfold Gl.endsMore
  by_cases h : p.length < t.length
  · rw [decide_eq_true h, Bool.true_and, Bool.true_and, Bool.eq_iff_iff, List.isSuffixOf_iff_suffix, List.suffix_iff_eq_drop, beq_iff_eq]
    exact ⟨fun h => h.symm, fun h => h.symm⟩
  · rw [decide_eq_false h, Bool.false_and, Bool.false_and]
set_option maxRecDepth 100000 in
set_option maxHeartbeats 1000000 in
theorem ref11_host (p t : List UInt8) (w : World) (hp : p.length ≤ 281474976710656) (ht : t.length ≤ 281474976710656) : Calls Tryz.prog 138 #[(Value.string ⟨(p).toArray⟩), (Value.string ⟨(t).toArray⟩)] w (Same w (.bool (Gl.named p t))) := by
  have hR : Gl.named p t = (p == [42] || p == t || (([42] : List UInt8).isPrefixOf p && (decide ((p.drop 1).length < t.length) && (t.drop (t.length - (p.drop 1).length) == p.drop 1)))) := by unfold Gl.named; rw [endsMore_eq]
  generalize Gl.named p t = R at *
  cases h1 : (p == [42])
  · cases h2 : (p == t)
    · cases p with
      | nil =>
        rw [h1, h2] at hR
        replace hR : Hid (R = false) := Lib.hid (by rw [hR]; rfl)
        go_enter Tryz.func138, Tryz.ntmps138
        go_wp2
        go_ret
        exact ⟨by rw [hR.out] <;> rfl, rfl⟩
      | cons c r =>
        rw [h1, h2, List.drop_one, List.tail_cons] at hR
        have he : (c :: r).isEmpty = false := rfl
        have hl : 0 < (c :: r).length := by simp
        have hg : (c :: r)[0] = c := rfl
        have hd : (c :: r).drop 1 = r := rfl
        by_cases hc : c = 42
        · have hcb : ((c.toNat : Int) == 42) = true := by rw [hc]; rfl
          have hcp : ([42] : List UInt8).isPrefixOf (c :: r) = true := by rw [hc]; simp [List.isPrefixOf]
          rw [hcp] at hR
          replace hcp := Lib.hid hcp
          simp only [List.length_cons] at hp
          by_cases h4 : r.length < t.length
          · have ei : (t.length : Int) - (r.length : Int) = ((t.length - r.length : Nat) : Int) := by omega
            rw [decide_eq_true h4] at hR
            cases h5 : (t.drop (t.length - r.length) == r)
            all_goals
              rw [h5] at hR
              replace hR := Lib.hid hR
              replace hc := Lib.hid hc
              go_enter Tryz.func138, Tryz.ntmps138
              go_wp2
              go_ret
              exact ⟨by rw [hR.out] <;> rfl, rfl⟩
          · rw [decide_eq_false h4] at hR
            replace hR := Lib.hid hR
            replace hc := Lib.hid hc
            go_enter Tryz.func138, Tryz.ntmps138
            go_wp2
            go_ret
            exact ⟨by rw [hR.out] <;> rfl, rfl⟩
        · have hcb : ((c.toNat : Int) == 42) = false := by rw [beq_eq_false_iff_ne]; intro h; exact hc (UInt8.toNat_inj.1 (by simp; omega))
          have hcp : ([42] : List UInt8).isPrefixOf (c :: r) = false := by simp [List.isPrefixOf]; exact fun h => hc h.symm
          rw [hcp] at hR
          replace hR := Lib.hid hR
          replace hcp := Lib.hid hcp
          clear hc
          go_enter Tryz.func138, Tryz.ntmps138
          go_wp2
          go_ret
          exact ⟨by rw [hR.out] <;> rfl, rfl⟩
    · rw [h1, h2] at hR
      replace hR : Hid (R = true) := Lib.hid (by rw [hR]; rfl)
      go_enter Tryz.func138, Tryz.ntmps138
      go_wp2
      go_ret
      exact ⟨by rw [hR.out] <;> rfl, rfl⟩
  · rw [h1] at hR
    replace hR : Hid (R = true) := Lib.hid (by rw [hR]; rfl)
    go_enter Tryz.func138, Tryz.ntmps138
    go_wp2
    go_ret
    exact ⟨by rw [hR.out] <;> rfl, rfl⟩
end Go.Proofs.YtkfoogmncokjnaaGreatDoor
