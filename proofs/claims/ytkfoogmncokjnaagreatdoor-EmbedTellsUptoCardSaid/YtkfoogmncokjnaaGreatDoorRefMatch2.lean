/- glacisref11: Match, Any, Frames. -/
import Derived.Test.YtkfoogmncokjnaaGreatDoorRefMatch
import Derived.Test.YtkfoogmncokjnaaGreatDoorRefSrcParse
import Derived.Test.YtkfoogmncokjnaaGreatDoorSlots
import Derived.Test.YtkfoogmncokjnaaGreatDoorText
namespace Go.Proofs.YtkfoogmncokjnaaGreatDoor
open Go.RowKit
attribute [local irreducible] Calls
theorem source_host_len (s : Gl.Bs) : (Gl.sourceOf s).host.length ≤ s.length := by
  have hS : ∀ sch t : Gl.Bs, (Gl.sourceHost sch t).host.length ≤ t.length := by
    intro sch t
    unfold Gl.sourceHost
    have h1 := span_len [47] t
    have h2 := span_len [58] (Gl.span [47] t).1
    simp only
    split
    · simp
    · split
      · simp; omega
      · split
        · simp; omega
        · split
          · simp
          · simp; omega
  unfold Gl.sourceOf Gl.sourceOf1
  have hl := lower_length s
  split
  · simp
  · split
    · simp
    · split
      · simp
      · split
        · have := hS ((Gl.lower s).take (Gl.schLen true (Gl.lower s))) (((Gl.lower s).drop (Gl.schLen true (Gl.lower s))).drop 3)
          rw [List.length_drop, List.length_drop] at this
          omega
        · have := hS [] (Gl.lower s)
          omega
theorem hostText_short (h : Gl.Host) (ha : h.addr < 4294967296) (hn : h.name.length ≤ 2147483647) : (Gl.hostText h).length ≤ 2147483647 := by
  cases hv : h.v4 with
  | true => rw [hostText_v4 h hv]; have := fourTo_len h.addr 4 ha (Nat.le_refl _); omega
  | false => unfold Gl.hostText; rw [hv]; exact hn
set_option maxRecDepth 100000 in
set_option maxHeartbeats 4000000 in
theorem ref11_hosted (s : Gl.Source) (o self : Gl.Origin) (w : World) (hE : Env w) (ha : o.host.addr < 4294967296) (hn : (Gl.hostText o.host).length ≤ 281474976710656) (hsh : s.host.length ≤ 281474976710656) : Calls Tryz.prog 101 #[(Value.agg #[(Value.int .i64 (s).kind), (Value.string ⟨((s).scheme).toArray⟩), (Value.string ⟨((s).host).toArray⟩), (Value.int .i64 (s).port)]), (Value.agg #[(Value.bool (o).opaq), (Value.int .i64 (o).id), (Value.string ⟨((o).scheme).toArray⟩), (Value.string ⟨(((o).host).name).toArray⟩), (Value.bool ((o).host).v4), (Value.int .u32 (((o).host).addr : Int)), (Value.int .i64 (o).port)]), (Value.agg #[(Value.bool (self).opaq), (Value.int .i64 (self).id), (Value.string ⟨((self).scheme).toArray⟩), (Value.string ⟨(((self).host).name).toArray⟩), (Value.bool ((self).host).v4), (Value.int .u32 (((self).host).addr : Int)), (Value.int .i64 (self).port)])] w (Ret w (.bool (Gl.fitsM s o self && Gl.portM s o && Gl.named s.host (Gl.hostText o.host)))) := by
  obtain ⟨kind, sc, sh, sp⟩ := s
  obtain ⟨q, i, t, h, p⟩ := o
  obtain ⟨r, j, u, g, n⟩ := self
  simp only at ha hn hsh ⊢
  have hF : Gl.fitsM { kind := kind, scheme := sc, host := sh, port := sp } { opaq := q, id := i, scheme := t, host := h, port := p : Gl.Origin } { opaq := r, id := j, scheme := u, host := g, port := n : Gl.Origin } = if (sc == []) = false then Gl.together sc t else if r = false then Gl.together u t else (t == [104, 116, 116, 112] || t == [104, 116, 116, 112, 115]) := by unfold Gl.fitsM; simp only [ne_eq, beq_eq_false_iff_ne]; rfl
  have hP : Gl.portM { kind := kind, scheme := sc, host := sh, port := sp } { opaq := q, id := i, scheme := t, host := h, port := p : Gl.Origin } = (sp == -2 || sp == p || (sp == -1 && Gl.ownPort { opaq := q, id := i, scheme := t, host := h, port := p : Gl.Origin }) || (sp == 80 && t == [104, 116, 116, 112, 115] && p == 443)) := rfl
  have htx := fun W (hW : Below w.heap.size w W) => ref2_text h W (hE.below hW) ha
  have hnm := fun W => ref11_host sh (Gl.hostText h) W hsh hn
  have ho1 := fun W => ref11_own { opaq := q, id := i, scheme := t, host := h, port := p : Gl.Origin } W
  have ht1 := fun W => ref11_together sc t W
  have htg := fun W => ref11_together u t W
  generalize Gl.fitsM { kind := kind, scheme := sc, host := sh, port := sp } { opaq := q, id := i, scheme := t, host := h, port := p : Gl.Origin } { opaq := r, id := j, scheme := u, host := g, port := n : Gl.Origin } = fm at *
  generalize Gl.portM { kind := kind, scheme := sc, host := sh, port := sp } { opaq := q, id := i, scheme := t, host := h, port := p : Gl.Origin } = pm at *
  generalize Gl.named sh (Gl.hostText h) = nm at *
  generalize Gl.hostText h = tx at *
  generalize Gl.ownPort { opaq := q, id := i, scheme := t, host := h, port := p : Gl.Origin } = o1 at *
  generalize Gl.together u t = tg at *
  generalize Gl.together sc t = t1 at *
  simp only at ho1
  replace hnm := Lib.hid hnm
  replace htx := Lib.hid htx
  replace ho1 := Lib.hid ho1
  replace htg := Lib.hid htg
  replace ht1 := Lib.hid ht1
  replace hF := Lib.hid hF
  replace hP := Lib.hid hP
  clear hn
  go_enter Tryz.func101, Tryz.ntmps101
  go_upto_region 1 with fail
  generalize hW0 : (((w.alloc (Obj.cells #[.int .i64 kind, (Value.string ⟨(sc).toArray⟩), (Value.string ⟨(sh).toArray⟩), .int .i64 sp] 107)).alloc (Obj.cells #[.bool q, .int .i64 i, (Value.string ⟨(t).toArray⟩), (Value.string ⟨(h.name).toArray⟩), .bool h.v4, .int .u32 (h.addr : Int), .int .i64 p] 31)).alloc (Obj.cells #[.bool r, .int .i64 j, (Value.string ⟨(u).toArray⟩), (Value.string ⟨(g.name).toArray⟩), .bool g.v4, .int .u32 (g.addr : Int), .int .i64 n] 31)) = W0
  have hw0 : Below w.heap.size w W0 := by rw [← hW0]; (repeat' first | (with_reducible exact Below.refl _ _) | (with_reducible refine Below.setCell ?_ (by first | omega | (simp; done) | (simp; omega)) _) | (with_reducible refine Below.alloc ?_ (by first | omega | (simp; done) | (simp; omega)) _) | refine below_drewN ?_ _ | refine Below.drew ?_ | (refine below_thru (by assumption) ?_ (by first | omega | (simp; done) | (simp; omega))) | exact Below.refl _ _)
  have hBA : Blk W0 (w.heap.size) 107 #[.int .i64 kind, (Value.string ⟨(sc).toArray⟩), (Value.string ⟨(sh).toArray⟩), .int .i64 sp] := by rw [← hW0]; exact (Blk.alloc (Blk.alloc (Blk.new _ _ _) _) _)
  have hBB : Blk W0 (w.heap.size + 1) 31 #[.bool q, .int .i64 i, (Value.string ⟨(t).toArray⟩), (Value.string ⟨(h.name).toArray⟩), .bool h.v4, .int .u32 (h.addr : Int), .int .i64 p] := by rw [← hW0]; exact (Blk.alloc (by have := Blk.new (w.alloc (Obj.cells #[.int .i64 kind, (Value.string ⟨(sc).toArray⟩), (Value.string ⟨(sh).toArray⟩), .int .i64 sp] 107)) 31 #[.bool q, .int .i64 i, (Value.string ⟨(t).toArray⟩), (Value.string ⟨(h.name).toArray⟩), .bool h.v4, .int .u32 (h.addr : Int), .int .i64 p]; simpa [World.size_alloc] using this) _)
  have hBC : Blk W0 (w.heap.size + 2) 31 #[.bool r, .int .i64 j, (Value.string ⟨(u).toArray⟩), (Value.string ⟨(g.name).toArray⟩), .bool g.v4, .int .u32 (g.addr : Int), .int .i64 n] := by rw [← hW0]; exact (by have := Blk.new ((w.alloc (Obj.cells #[.int .i64 kind, (Value.string ⟨(sc).toArray⟩), (Value.string ⟨(sh).toArray⟩), .int .i64 sp] 107)).alloc (Obj.cells #[.bool q, .int .i64 i, (Value.string ⟨(t).toArray⟩), (Value.string ⟨(h.name).toArray⟩), .bool h.v4, .int .u32 (h.addr : Int), .int .i64 p] 31)) 31 #[.bool r, .int .i64 j, (Value.string ⟨(u).toArray⟩), (Value.string ⟨(g.name).toArray⟩), .bool g.v4, .int .u32 (g.addr : Int), .int .i64 n]; simpa [World.size_alloc] using this)
  clear hW0
  have hAl := hBA.lt
  have hAc := hBA.cell
  have hAf := hBA.frozen
  have hBl := hBB.lt
  have hBc := hBB.cell
  have hBf := hBB.frozen
  have hCl := hBC.lt
  have hCc := hBC.cell
  have hCf := hBC.frozen
  go_cut [7] from 11 (fun f w' => f = .bool (t == [104, 116, 116, 112] || t == [104, 116, 116, 112, 115]) ∧ w' = W0)
  case first =>
    cases h1 : (t == [104, 116, 116, 112]) <;> cases h2 : (t == [104, 116, 116, 112, 115])
    all_goals
      go_wp2_with fail
      go_meet
      case rel => exact ⟨by rw [h1, h2] <;> rfl, rfl⟩
  case rest =>
    obtain ⟨rfl, hwc⟩ := hcut
    subst hwc
    generalize hft : (t == [104, 116, 116, 112] || t == [104, 116, 116, 112, 115]) = ft at *
    generalize hfa : (if r = false then tg else ft) = fa at *
    replace hft := Lib.hid hft
    replace hfa := Lib.hid hfa
    go_upto_if 21 with fail
    go_cut [7] from 11 (fun f w' => f = .bool fa ∧ w' = wc)
    case first =>
      cases r
      · go_wp2_with (go_at_call 99; refine ( htg.out _).mono ?_; rintro e w1 ⟨rfl, rfl⟩)
        go_meet
        case rel => exact ⟨by rw [← hfa.out] <;> rfl, rfl⟩
      · go_wp2_with fail
        go_meet
        case rel => exact ⟨by rw [← hfa.out] <;> rfl, rfl⟩
    case rest =>
      obtain ⟨rfl, hwc⟩ := hcut
      subst hwc
      go_upto_region 4 with fail
      go_cut [29] from 11 (fun f w' => f = .bool (!(sc == [])) ∧ w' = wc)
      case first =>
        cases hsc : (sc == [])
        all_goals
          go_wp2_with fail
          go_meet
          case rel => exact ⟨by rw [hsc] <;> rfl, rfl⟩
      case rest =>
       obtain ⟨rfl, hwc⟩ := hcut
       subst hwc
       go_upto_if 29 with fail
       go_cut [7] from 11 (fun f w' => f = .bool fm ∧ w' = wc)
       case first =>
        cases hsc : (sc == [])
        · have hF2 : Hid (fm = t1) := Lib.hid (by rw [hF.out, if_pos hsc])
          go_wp2_with (go_at_call 99; refine ( ht1.out _).mono ?_; rintro e w1 ⟨rfl, rfl⟩)
          go_meet
          case rel => exact ⟨by rw [hF2.out] <;> rfl, rfl⟩
        · have hF2 : Hid (fm = fa) := Lib.hid (by rw [hF.out, if_neg (by rw [hsc]; simp), ← hfa.out, ← hft.out])
          go_wp2_with fail
          go_meet
          case rel => exact ⟨by rw [hF2.out] <;> rfl, rfl⟩
       case rest =>
        obtain ⟨rfl, hwc⟩ := hcut
        subst hwc
        go_upto_region 6 with fail
        go_cut [8] from 11 (fun f w' => f = .bool nm ∧ Below w.heap.size w w' ∧ Blk w' (w.heap.size) 107 #[.int .i64 kind, (Value.string ⟨(sc).toArray⟩), (Value.string ⟨(sh).toArray⟩), .int .i64 sp] ∧ Blk w' (w.heap.size + 1) 31 #[.bool q, .int .i64 i, (Value.string ⟨(t).toArray⟩), (Value.string ⟨(h.name).toArray⟩), .bool h.v4, .int .u32 (h.addr : Int), .int .i64 p])
        case first =>
          go_region_held3 (fun W => Below w.heap.size w W ∧ w.heap.size < W.heap.size ∧ w.heap.size + 1 < W.heap.size ∧ (∀ n0, W.cell? ⟨w.heap.size, n0, none⟩ = (#[.int .i64 kind, (Value.string ⟨(sc).toArray⟩), (Value.string ⟨(sh).toArray⟩), .int .i64 sp] : Array Value)[n0]?) ∧ (∀ n0, W.cell? ⟨w.heap.size + 1, n0, none⟩ = (#[.bool q, .int .i64 i, (Value.string ⟨(t).toArray⟩), (Value.string ⟨(h.name).toArray⟩), .bool h.v4, .int .u32 (h.addr : Int), .int .i64 p] : Array Value)[n0]?)) ((refine ⟨by (repeat' first | (with_reducible exact Below.refl _ _) | (with_reducible refine Below.setCell ?_ (by first | omega | (simp; done) | (simp; omega)) _) | (with_reducible refine Below.alloc ?_ (by first | omega | (simp; done) | (simp; omega)) _) | refine below_drewN ?_ _ | refine Below.drew ?_ | (refine below_thru (by assumption) ?_ (by first | omega | (simp; done) | (simp; omega))) | exact Below.refl _ _), ?_⟩; simp [*]))
            (first | (go_at_call 123; refine ( htx.out _ (by (repeat' first | (with_reducible exact Below.refl _ _) | (with_reducible refine Below.setCell ?_ (by first | omega | (simp; done) | (simp; omega)) _) | (with_reducible refine Below.alloc ?_ (by first | omega | (simp; done) | (simp; omega)) _) | refine below_drewN ?_ _ | refine Below.drew ?_ | (refine below_thru (by assumption) ?_ (by first | omega | (simp; done) | (simp; omega))) | exact Below.refl _ _))).mono ?_; rintro e w1 ⟨rfl, hb⟩; obtain ⟨hc, hfz⟩ := bcell hb; have hz := hb.size; (try simp at hz); (try have hz0 : w.heap.size < w1.heap.size := by omega); (try have hz1 : w.heap.size + 1 < w1.heap.size := by omega); (try have hz2 : w.heap.size + 2 < w1.heap.size := by omega); (try have hz3 : w.heap.size + 3 < w1.heap.size := by omega); (try have hcA := fun o => hc w.heap.size o (by first | omega | (simp; omega))); (try have hcB := fun o => hc (w.heap.size + 1) o (by first | omega | (simp; omega))); (try have hcGg := fun o => hc g o (by first | omega | (simp; omega))); (try have hfGg := fun o => hfz g o (by first | omega | (simp; omega))); (try have hzGg : g < w1.heap.size := by omega)) | (go_at_call 138; refine ( hnm.out _).mono ?_; rintro e w1 ⟨rfl, rfl⟩))
          all_goals go_wp2_with fail
          all_goals go_meet
          all_goals exact ⟨rfl, by (repeat' first | (with_reducible exact Below.refl _ _) | (with_reducible refine Below.setCell ?_ (by first | omega | (simp; done) | (simp; omega)) _) | (with_reducible refine Below.alloc ?_ (by first | omega | (simp; done) | (simp; omega)) _) | refine below_drewN ?_ _ | refine Below.drew ?_ | (refine below_thru (by assumption) ?_ (by first | omega | (simp; done) | (simp; omega))) | exact Below.refl _ _), by (repeat' first | (with_reducible assumption) | (with_reducible exact Blk.new _ _ _) | (with_reducible refine Blk.drew_ ?_) | (with_reducible refine Blk.alloc ?_ _) | (refine Blk.below ?_ (by assumption) (by first | omega | (simp; done) | (simp; omega)))), by (repeat' first | (with_reducible assumption) | (with_reducible exact Blk.new _ _ _) | (with_reducible refine Blk.drew_ ?_) | (with_reducible refine Blk.alloc ?_ _) | (refine Blk.below ?_ (by assumption) (by first | omega | (simp; done) | (simp; omega))))⟩
        case rest =>
          clear hAl hAc hAf hBl hBc hBf hCl hCc hCf hBA hBB hBC hw0
          obtain ⟨rfl, hw0, hBA, hBB⟩ := hcut
          have hAl := hBA.lt
          have hAc := hBA.cell
          have hAf := hBA.frozen
          have hBl := hBB.lt
          have hBc := hBB.cell
          have hBf := hBB.frozen
          go_upto_region 8 with (go_at_call 137; refine ( ho1.out _).mono ?_; rintro e w1 ⟨rfl, hb⟩; obtain ⟨hc, hfz⟩ := bcell hb; have hz := hb.size; (try simp at hz); (try have hz0 : w.heap.size < w1.heap.size := by omega); (try have hz1 : w.heap.size + 1 < w1.heap.size := by omega); (try have hz2 : w.heap.size + 2 < w1.heap.size := by omega); (try have hz3 : w.heap.size + 3 < w1.heap.size := by omega); (try have hcA := fun o => hc w.heap.size o (by first | omega | (simp; omega))); (try have hcB := fun o => hc (w.heap.size + 1) o (by first | omega | (simp; omega))); (try have hcGg := fun o => hc g o (by first | omega | (simp; omega))); (try have hfGg := fun o => hfz g o (by first | omega | (simp; omega))); (try have hzGg : g < w1.heap.size := by omega))
          go_cut [10] from 11 (fun f w' => f = .bool pm ∧ Below w.heap.size w w')
          case first =>
            cases k1 : (sp == -2)
            · cases k2 : (sp == p)
              · cases k3 : (sp == -1)
                · cases k4 : (sp == 80)
                  · have hP2 : Hid (pm = false) := Lib.hid (by rw [hP.out, k1, k2, k3, k4]; rfl)
                    go_wp2_with fail
                    go_meet
                    case rel => exact ⟨by rw [hP2.out] <;> rfl, by (repeat' first | (with_reducible exact Below.refl _ _) | (with_reducible refine Below.setCell ?_ (by first | omega | (simp; done) | (simp; omega)) _) | (with_reducible refine Below.alloc ?_ (by first | omega | (simp; done) | (simp; omega)) _) | refine below_drewN ?_ _ | refine Below.drew ?_ | (refine below_thru (by assumption) ?_ (by first | omega | (simp; done) | (simp; omega))) | exact Below.refl _ _)⟩
                  · cases k5 : (t == [104, 116, 116, 112, 115])
                    · have hP2 : Hid (pm = false) := Lib.hid (by rw [hP.out, k1, k2, k3, k4, k5]; rfl)
                      go_wp2_with fail
                      go_meet
                      case rel => exact ⟨by rw [hP2.out] <;> rfl, by (repeat' first | (with_reducible exact Below.refl _ _) | (with_reducible refine Below.setCell ?_ (by first | omega | (simp; done) | (simp; omega)) _) | (with_reducible refine Below.alloc ?_ (by first | omega | (simp; done) | (simp; omega)) _) | refine below_drewN ?_ _ | refine Below.drew ?_ | (refine below_thru (by assumption) ?_ (by first | omega | (simp; done) | (simp; omega))) | exact Below.refl _ _)⟩
                    · have hP2 : Hid (pm = (p == 443)) := Lib.hid (by rw [hP.out, k1, k2, k3, k4, k5]; rfl)
                      cases k6 : (p == 443)
                      all_goals
                        rw [k6] at hP2
                        go_wp2_with fail
                        go_meet
                        case rel => exact ⟨by rw [hP2.out] <;> rfl, by (repeat' first | (with_reducible exact Below.refl _ _) | (with_reducible refine Below.setCell ?_ (by first | omega | (simp; done) | (simp; omega)) _) | (with_reducible refine Below.alloc ?_ (by first | omega | (simp; done) | (simp; omega)) _) | refine below_drewN ?_ _ | refine Below.drew ?_ | (refine below_thru (by assumption) ?_ (by first | omega | (simp; done) | (simp; omega))) | exact Below.refl _ _)⟩
                · have k4 : (sp == 80) = false := by rw [beq_eq_false_iff_ne]; simp at k3; omega
                  have hP2 : Hid (pm = o1) := Lib.hid (by rw [hP.out, k1, k2, k3, k4]; simp)
                  cases o1
                  all_goals
                    go_wp2_with fail
                    go_meet
                    case rel => exact ⟨by rw [hP2.out] <;> rfl, by (repeat' first | (with_reducible exact Below.refl _ _) | (with_reducible refine Below.setCell ?_ (by first | omega | (simp; done) | (simp; omega)) _) | (with_reducible refine Below.alloc ?_ (by first | omega | (simp; done) | (simp; omega)) _) | refine below_drewN ?_ _ | refine Below.drew ?_ | (refine below_thru (by assumption) ?_ (by first | omega | (simp; done) | (simp; omega))) | exact Below.refl _ _)⟩
              · have hP2 : Hid (pm = true) := Lib.hid (by rw [hP.out, k1, k2]; rfl)
                go_wp2_with fail
                go_meet
                case rel => exact ⟨by rw [hP2.out] <;> rfl, by (repeat' first | (with_reducible exact Below.refl _ _) | (with_reducible refine Below.setCell ?_ (by first | omega | (simp; done) | (simp; omega)) _) | (with_reducible refine Below.alloc ?_ (by first | omega | (simp; done) | (simp; omega)) _) | refine below_drewN ?_ _ | refine Below.drew ?_ | (refine below_thru (by assumption) ?_ (by first | omega | (simp; done) | (simp; omega))) | exact Below.refl _ _)⟩
            · have hP2 : Hid (pm = true) := Lib.hid (by rw [hP.out, k1]; rfl)
              go_wp2_with fail
              go_meet
              case rel => exact ⟨by rw [hP2.out] <;> rfl, by (repeat' first | (with_reducible exact Below.refl _ _) | (with_reducible refine Below.setCell ?_ (by first | omega | (simp; done) | (simp; omega)) _) | (with_reducible refine Below.alloc ?_ (by first | omega | (simp; done) | (simp; omega)) _) | refine below_drewN ?_ _ | refine Below.drew ?_ | (refine below_thru (by assumption) ?_ (by first | omega | (simp; done) | (simp; omega))) | exact Below.refl _ _)⟩
          case rest =>
            obtain ⟨rfl, hw1⟩ := hcut
            cases fm <;> cases pm <;> cases nm
            all_goals
              go_wp2_with fail
              go_ret
              exact ⟨rfl, hw1⟩
set_option maxRecDepth 100000 in
set_option maxHeartbeats 1000000 in
theorem ref11_match (s : Gl.Source) (o self : Gl.Origin) (w : World) (hE : Env w) (ha : o.host.addr < 4294967296) (hn : o.host.name.length ≤ 2147483647) (hsh : s.host.length ≤ 281474976710656) : Calls Tryz.prog 77 #[(Value.agg #[(Value.int .i64 (s).kind), (Value.string ⟨((s).scheme).toArray⟩), (Value.string ⟨((s).host).toArray⟩), (Value.int .i64 (s).port)]), (Value.agg #[(Value.bool (o).opaq), (Value.int .i64 (o).id), (Value.string ⟨((o).scheme).toArray⟩), (Value.string ⟨(((o).host).name).toArray⟩), (Value.bool ((o).host).v4), (Value.int .u32 (((o).host).addr : Int)), (Value.int .i64 (o).port)]), (Value.agg #[(Value.bool (self).opaq), (Value.int .i64 (self).id), (Value.string ⟨((self).scheme).toArray⟩), (Value.string ⟨(((self).host).name).toArray⟩), (Value.bool ((self).host).v4), (Value.int .u32 (((self).host).addr : Int)), (Value.int .i64 (self).port)])] w (Ret w (.bool (Gl.matchS s o self))) := by
  have hR : Gl.matchS s o self = if o.opaq = true then false else if s.kind = 2 then true else if s.kind = 3 then Gl.together s.scheme o.scheme else if s.kind = 1 then Gl.selfM o self else if s.kind = 4 then Gl.fitsM s o self && Gl.portM s o && Gl.named s.host (Gl.hostText o.host) else false := rfl
  by_cases hq : o.opaq = true
  · rw [hR, if_pos hq]
    obtain ⟨q, i, t, h, p⟩ := o
    simp only at hq ⊢
    subst hq
    clear hR
    go_enter Tryz.func77, Tryz.ntmps77
    go_wp2
    go_ret
    exact ⟨rfl, by (repeat' first | (with_reducible exact Below.refl _ _) | (with_reducible refine Below.setCell ?_ (by first | omega | (simp; done) | (simp; omega)) _) | (with_reducible refine Below.alloc ?_ (by first | omega | (simp; done) | (simp; omega)) _) | refine below_drewN ?_ _ | refine Below.drew ?_ | (refine below_thru (by assumption) ?_ (by first | omega | (simp; done) | (simp; omega))) | exact Below.refl _ _)⟩
  · replace hq : o.opaq = false := by simpa using hq
    rw [if_neg (by rw [hq]; simp)] at hR
    by_cases k1 : s.kind = 1
    · rw [hR, if_neg (by omega), if_neg (by omega), if_pos k1]
      clear hR
      have hsf := fun W => ref11_self o self W
      generalize Gl.selfM o self = q1 at *
      obtain ⟨kind, sc, sh, sp⟩ := s
      obtain ⟨q, i, t, h, p⟩ := o
      simp only at hq k1 hsf ⊢
      subst hq k1
      replace hsf := Lib.hid hsf
      go_enter Tryz.func77, Tryz.ntmps77
      go_wp2_with (go_at_call 100; refine ( hsf.out _).mono ?_; rintro e w1 ⟨rfl, hb⟩; obtain ⟨hc, hfz⟩ := bcell hb; have hz := hb.size; (try simp at hz); (try have hz0 : w.heap.size < w1.heap.size := by omega); (try have hz1 : w.heap.size + 1 < w1.heap.size := by omega); (try have hz2 : w.heap.size + 2 < w1.heap.size := by omega); (try have hz3 : w.heap.size + 3 < w1.heap.size := by omega); (try have hcA := fun o => hc w.heap.size o (by first | omega | (simp; omega))); (try have hcB := fun o => hc (w.heap.size + 1) o (by first | omega | (simp; omega))))
      go_ret
      exact ⟨rfl, by (repeat' first | (with_reducible exact Below.refl _ _) | (with_reducible refine Below.setCell ?_ (by first | omega | (simp; done) | (simp; omega)) _) | (with_reducible refine Below.alloc ?_ (by first | omega | (simp; done) | (simp; omega)) _) | refine below_drewN ?_ _ | refine Below.drew ?_ | (refine below_thru (by assumption) ?_ (by first | omega | (simp; done) | (simp; omega))) | exact Below.refl _ _)⟩
    by_cases k4 : s.kind = 4
    · rw [hR, if_neg (by omega), if_neg (by omega), if_neg (by omega), if_pos k4]
      clear hR
      have hsf := fun W (hW : Below w.heap.size w W) => ref11_hosted s o self W (hE.below hW) ha (by have := hostText_short o.host ha hn; omega) hsh
      generalize (Gl.fitsM s o self && Gl.portM s o && Gl.named s.host (Gl.hostText o.host)) = q1 at *
      obtain ⟨kind, sc, sh, sp⟩ := s
      obtain ⟨q, i, t, h, p⟩ := o
      simp only at hq k4 hsf ⊢
      subst hq k4
      replace hsf := Lib.hid hsf
      go_enter Tryz.func77, Tryz.ntmps77
      go_wp2_with (go_at_call 101; refine ( hsf.out _ (by (repeat' first | (with_reducible exact Below.refl _ _) | (with_reducible refine Below.setCell ?_ (by first | omega | (simp; done) | (simp; omega)) _) | (with_reducible refine Below.alloc ?_ (by first | omega | (simp; done) | (simp; omega)) _) | refine below_drewN ?_ _ | refine Below.drew ?_ | (refine below_thru (by assumption) ?_ (by first | omega | (simp; done) | (simp; omega))) | exact Below.refl _ _))).mono ?_; rintro e w1 ⟨rfl, hb⟩; obtain ⟨hc, hfz⟩ := bcell hb; have hz := hb.size; (try simp at hz); (try have hz0 : w.heap.size < w1.heap.size := by omega); (try have hz1 : w.heap.size + 1 < w1.heap.size := by omega); (try have hz2 : w.heap.size + 2 < w1.heap.size := by omega); (try have hz3 : w.heap.size + 3 < w1.heap.size := by omega); (try have hcA := fun o => hc w.heap.size o (by first | omega | (simp; omega))); (try have hcB := fun o => hc (w.heap.size + 1) o (by first | omega | (simp; omega))))
      go_ret
      exact ⟨rfl, by (repeat' first | (with_reducible exact Below.refl _ _) | (with_reducible refine Below.setCell ?_ (by first | omega | (simp; done) | (simp; omega)) _) | (with_reducible refine Below.alloc ?_ (by first | omega | (simp; done) | (simp; omega)) _) | refine below_drewN ?_ _ | refine Below.drew ?_ | (refine below_thru (by assumption) ?_ (by first | omega | (simp; done) | (simp; omega))) | exact Below.refl _ _)⟩
    by_cases k2 : s.kind = 2
    · rw [hR, if_pos k2]
      clear hR
      obtain ⟨kind, sc, sh, sp⟩ := s
      obtain ⟨q, i, t, h, p⟩ := o
      simp only at hq k2 ⊢
      subst hq k2
      go_enter Tryz.func77, Tryz.ntmps77
      go_wp2
      go_ret
      exact ⟨rfl, by (repeat' first | (with_reducible exact Below.refl _ _) | (with_reducible refine Below.setCell ?_ (by first | omega | (simp; done) | (simp; omega)) _) | (with_reducible refine Below.alloc ?_ (by first | omega | (simp; done) | (simp; omega)) _) | refine below_drewN ?_ _ | refine Below.drew ?_ | (refine below_thru (by assumption) ?_ (by first | omega | (simp; done) | (simp; omega))) | exact Below.refl _ _)⟩
    by_cases k3 : s.kind = 3
    · rw [hR, if_neg (by omega), if_pos k3]
      clear hR
      have htg := fun W => ref11_together s.scheme o.scheme W
      generalize Gl.together s.scheme o.scheme = tg at *
      obtain ⟨kind, sc, sh, sp⟩ := s
      obtain ⟨q, i, t, h, p⟩ := o
      simp only at hq k3 htg ⊢
      subst hq k3
      replace htg := Lib.hid htg
      go_enter Tryz.func77, Tryz.ntmps77
      go_wp2_with (go_at_call 99; refine ( htg.out _).mono ?_; rintro e w1 ⟨rfl, rfl⟩)
      go_ret
      exact ⟨rfl, by (repeat' first | (with_reducible exact Below.refl _ _) | (with_reducible refine Below.setCell ?_ (by first | omega | (simp; done) | (simp; omega)) _) | (with_reducible refine Below.alloc ?_ (by first | omega | (simp; done) | (simp; omega)) _) | refine below_drewN ?_ _ | refine Below.drew ?_ | (refine below_thru (by assumption) ?_ (by first | omega | (simp; done) | (simp; omega))) | exact Below.refl _ _)⟩
    · rw [hR, if_neg k2, if_neg k3, if_neg k1, if_neg k4]
      clear hR
      obtain ⟨kind, sc, sh, sp⟩ := s
      obtain ⟨q, i, t, h, p⟩ := o
      simp only at hq k1 k2 k3 k4 ⊢
      subst hq
      have j1 : (kind == 1) = false := by simpa using k1
      have j2 : (kind == 2) = false := by simpa using k2
      have j3 : (kind == 3) = false := by simpa using k3
      have j4 : (kind == 4) = false := by simpa using k4
      clear k1 k2 k3 k4
      go_enter Tryz.func77, Tryz.ntmps77
      go_wp2
      go_ret
      exact ⟨rfl, by (repeat' first | (with_reducible exact Below.refl _ _) | (with_reducible refine Below.setCell ?_ (by first | omega | (simp; done) | (simp; omega)) _) | (with_reducible refine Below.alloc ?_ (by first | omega | (simp; done) | (simp; omega)) _) | refine below_drewN ?_ _ | refine Below.drew ?_ | (refine below_thru (by assumption) ?_ (by first | omega | (simp; done) | (simp; omega))) | exact Below.refl _ _)⟩
set_option maxRecDepth 100000 in
set_option maxHeartbeats 1000000 in
theorem ref11_any (v : Value) (L : List (List UInt8)) (o self : Gl.Origin) (w : World) (hE : Env w) (hv : Strs w w.heap.size v L) (hl : L.length ≤ 281474976710656) (hsh : ∀ s ∈ L, s.length ≤ 4294967280) (ha : o.host.addr < 4294967296) (hn : o.host.name.length ≤ 2147483647) :
    Calls Tryz.prog 60 #[v, (Value.agg #[(Value.bool (o).opaq), (Value.int .i64 (o).id), (Value.string ⟨((o).scheme).toArray⟩), (Value.string ⟨(((o).host).name).toArray⟩), (Value.bool ((o).host).v4), (Value.int .u32 (((o).host).addr : Int)), (Value.int .i64 (o).port)]), (Value.agg #[(Value.bool (self).opaq), (Value.int .i64 (self).id), (Value.string ⟨((self).scheme).toArray⟩), (Value.string ⟨(((self).host).name).toArray⟩), (Value.bool ((self).host).v4), (Value.int .u32 (((self).host).addr : Int)), (Value.int .i64 (self).port)])] w (Ret w (.bool (Gl.anyS L o self))) := by
  have H := Lib.hid hv
  replace hsh := Lib.hid hsh
  generalize hR : Gl.anyS L o self = R
  replace hR := Lib.hid hR
  obtain ⟨A, c, rfl, h1, h2, h3⟩ := hv
  clear h3
  go_enter Tryz.func60, Tryz.ntmps60
  go_wp2_with fail
  generalize hW0 : ((w.alloc (Obj.cells #[(Value.bool (o).opaq), (Value.int .i64 (o).id), (Value.string ⟨((o).scheme).toArray⟩), (Value.string ⟨(((o).host).name).toArray⟩), (Value.bool ((o).host).v4), (Value.int .u32 (((o).host).addr : Int)), (Value.int .i64 (o).port)] 31)).alloc (Obj.cells #[(Value.bool (self).opaq), (Value.int .i64 (self).id), (Value.string ⟨((self).scheme).toArray⟩), (Value.string ⟨(((self).host).name).toArray⟩), (Value.bool ((self).host).v4), (Value.int .u32 (((self).host).addr : Int)), (Value.int .i64 (self).port)] 31)) = W0
  have hw0 : Below w.heap.size w W0 := by rw [← hW0]; (repeat' first | (with_reducible exact Below.refl _ _) | (with_reducible refine Below.setCell ?_ (by first | omega | (simp; done) | (simp; omega)) _) | (with_reducible refine Below.alloc ?_ (by first | omega | (simp; done) | (simp; omega)) _) | refine below_drewN ?_ _ | refine Below.drew ?_ | (refine below_thru (by assumption) ?_ (by first | omega | (simp; done) | (simp; omega))) | exact Below.refl _ _)
  have hBA : Blk W0 (w.heap.size) 31 #[(Value.bool (o).opaq), (Value.int .i64 (o).id), (Value.string ⟨((o).scheme).toArray⟩), (Value.string ⟨(((o).host).name).toArray⟩), (Value.bool ((o).host).v4), (Value.int .u32 (((o).host).addr : Int)), (Value.int .i64 (o).port)] := by rw [← hW0]; exact (Blk.alloc (Blk.new _ _ _) _)
  have hBB : Blk W0 (w.heap.size + 1) 31 #[(Value.bool (self).opaq), (Value.int .i64 (self).id), (Value.string ⟨((self).scheme).toArray⟩), (Value.string ⟨(((self).host).name).toArray⟩), (Value.bool ((self).host).v4), (Value.int .u32 (((self).host).addr : Int)), (Value.int .i64 (self).port)] := by rw [← hW0]; exact (by have := Blk.new (w.alloc (Obj.cells #[(Value.bool (o).opaq), (Value.int .i64 (o).id), (Value.string ⟨((o).scheme).toArray⟩), (Value.string ⟨(((o).host).name).toArray⟩), (Value.bool ((o).host).v4), (Value.int .u32 (((o).host).addr : Int)), (Value.int .i64 (o).port)] 31)) 31 #[(Value.bool (self).opaq), (Value.int .i64 (self).id), (Value.string ⟨((self).scheme).toArray⟩), (Value.string ⟨(((self).host).name).toArray⟩), (Value.bool ((self).host).v4), (Value.int .u32 (((self).host).addr : Int)), (Value.int .i64 (self).port)]; simpa [World.size_alloc] using this)
  clear hW0
  go_loopw [7, 8] (fun i _ wr => ∃ k : Nat, k ≤ L.length ∧ i = .int .i64 k ∧ Below w.heap.size w wr ∧ Blk wr (w.heap.size) 31 #[(Value.bool (o).opaq), (Value.int .i64 (o).id), (Value.string ⟨((o).scheme).toArray⟩), (Value.string ⟨(((o).host).name).toArray⟩), (Value.bool ((o).host).v4), (Value.int .u32 (((o).host).addr : Int)), (Value.int .i64 (o).port)] ∧ Blk wr (w.heap.size + 1) 31 #[(Value.bool (self).opaq), (Value.int .i64 (self).id), (Value.string ⟨((self).scheme).toArray⟩), (Value.string ⟨(((self).host).name).toArray⟩), (Value.bool ((self).host).v4), (Value.int .u32 (((self).host).addr : Int)), (Value.int .i64 (self).port)] ∧ Hid (R = Gl.anyS (L.drop k) o self)) (fun i _ _ => L.length - (intOf i).toNat)
  case atStart => exact ⟨0, Nat.zero_le _, rfl, hw0, hBA, hBB, Lib.hid hR.out.symm⟩
  case round =>
    obtain ⟨k, hk, rfl, hw1, hB1, hB2, hr⟩ := hrel
    clear hBA hBB hw0
    by_cases hlt : k < L.length
    · obtain ⟨sb, so, sd, he, hsB, hcell⟩ := H.out.cells k hlt
      injection he with he1 he2 he3
      subst he1 he3
      have hx0 := fun (W : World) (hW : Below w.heap.size w W) => (hW.cell (p := ⟨sb, so + k, none⟩) hsB).trans (hcell k hlt)
      clear hcell
      have hp := fun (W : World) (hW : Below w.heap.size w W) => ref11_parse L[k] W (hsh.out _ (List.getElem_mem hlt))
      have hm := fun (W : World) (hW : Below w.heap.size w W) => ref11_match (Gl.sourceOf L[k]) o self W (hE.below hW) ha hn (by have := source_host_len L[k]; have := hsh.out _ (List.getElem_mem hlt); omega)
      rw [drop_consL hlt] at hr
      have hr2 : R = (Gl.matchS (Gl.sourceOf L[k]) o self || Gl.anyS (L.drop (k + 1)) o self) := by rw [hr.out]; rfl
      generalize Gl.matchS (Gl.sourceOf L[k]) o self = m at *
      generalize Gl.sourceOf L[k] = src at *
      generalize L[k] = x at *
      clear hr
      replace hr2 := Lib.hid hr2
      replace hp := Lib.hid hp
      replace hm := Lib.hid hm
      have h1l := hB1.lt
      have h1c := hB1.cell
      have h1f := hB1.frozen
      have h2l := hB2.lt
      have h2c := hB2.cell
      have h2f := hB2.frozen
      cases m
      · go_upto_region 4 with fail
        go_region_held3 (fun W => Below w.heap.size w W ∧ w.heap.size < W.heap.size ∧ w.heap.size + 1 < W.heap.size ∧ (∀ n0, W.cell? ⟨w.heap.size, n0, none⟩ = (#[(Value.bool (o).opaq), (Value.int .i64 (o).id), (Value.string ⟨((o).scheme).toArray⟩), (Value.string ⟨(((o).host).name).toArray⟩), (Value.bool ((o).host).v4), (Value.int .u32 (((o).host).addr : Int)), (Value.int .i64 (o).port)] : Array Value)[n0]?) ∧ (∀ n0, W.cell? ⟨w.heap.size + 1, n0, none⟩ = (#[(Value.bool (self).opaq), (Value.int .i64 (self).id), (Value.string ⟨((self).scheme).toArray⟩), (Value.string ⟨(((self).host).name).toArray⟩), (Value.bool ((self).host).v4), (Value.int .u32 (((self).host).addr : Int)), (Value.int .i64 (self).port)] : Array Value)[n0]?) ∧ W.cell? ⟨sb, so + k, none⟩ = some ((Value.string ⟨(x).toArray⟩))) ((refine ⟨by (repeat' first | (with_reducible exact Below.refl _ _) | (with_reducible refine Below.setCell ?_ (by first | omega | (simp; done) | (simp; omega)) _) | (with_reducible refine Below.alloc ?_ (by first | omega | (simp; done) | (simp; omega)) _) | refine below_drewN ?_ _ | refine Below.drew ?_ | (refine below_thru (by assumption) ?_ (by first | omega | (simp; done) | (simp; omega))) | exact Below.refl _ _), by first | omega | (simp; omega), by first | omega | (simp; omega), by exact Blk.cell (t := 31) (by (repeat' first | (with_reducible assumption) | (with_reducible exact Blk.new _ _ _) | (with_reducible refine Blk.drew_ ?_) | (with_reducible refine Blk.alloc ?_ _) | (refine Blk.below ?_ (by assumption) (by first | omega | (simp; done) | (simp; omega))))), by exact Blk.cell (t := 31) (by (repeat' first | (with_reducible assumption) | (with_reducible exact Blk.new _ _ _) | (with_reducible refine Blk.drew_ ?_) | (with_reducible refine Blk.alloc ?_ _) | (refine Blk.below ?_ (by assumption) (by first | omega | (simp; done) | (simp; omega))))), ?_⟩; exact hx0 _ (by (repeat' first | (with_reducible exact Below.refl _ _) | (with_reducible refine Below.setCell ?_ (by first | omega | (simp; done) | (simp; omega)) _) | (with_reducible refine Below.alloc ?_ (by first | omega | (simp; done) | (simp; omega)) _) | refine below_drewN ?_ _ | refine Below.drew ?_ | (refine below_thru (by assumption) ?_ (by first | omega | (simp; done) | (simp; omega))) | exact Below.refl _ _))))
          (first | (go_at_call 78; refine ( hp.out _ (by (repeat' first | (with_reducible exact Below.refl _ _) | (with_reducible refine Below.setCell ?_ (by first | omega | (simp; done) | (simp; omega)) _) | (with_reducible refine Below.alloc ?_ (by first | omega | (simp; done) | (simp; omega)) _) | refine below_drewN ?_ _ | refine Below.drew ?_ | (refine below_thru (by assumption) ?_ (by first | omega | (simp; done) | (simp; omega))) | exact Below.refl _ _))).mono ?_; rintro e w1 ⟨rfl, hb⟩; obtain ⟨hc, hfz⟩ := bcell hb; have hz := hb.size; (try simp at hz); (try have hz0 : w.heap.size < w1.heap.size := by omega); (try have hz1 : w.heap.size + 1 < w1.heap.size := by omega); (try have hz2 : w.heap.size + 2 < w1.heap.size := by omega); (try have hz3 : w.heap.size + 3 < w1.heap.size := by omega); (try have hcA := fun o => hc w.heap.size o (by first | omega | (simp; omega))); (try have hcB := fun o => hc (w.heap.size + 1) o (by first | omega | (simp; omega)))) | (go_at_call 77; refine ( hm.out _ (by (repeat' first | (with_reducible exact Below.refl _ _) | (with_reducible refine Below.setCell ?_ (by first | omega | (simp; done) | (simp; omega)) _) | (with_reducible refine Below.alloc ?_ (by first | omega | (simp; done) | (simp; omega)) _) | refine below_drewN ?_ _ | refine Below.drew ?_ | (refine below_thru (by assumption) ?_ (by first | omega | (simp; done) | (simp; omega))) | exact Below.refl _ _))).mono ?_; rintro e w1 ⟨rfl, hb⟩; obtain ⟨hc, hfz⟩ := bcell hb; have hz := hb.size; (try simp at hz); (try have hz0 : w.heap.size < w1.heap.size := by omega); (try have hz1 : w.heap.size + 1 < w1.heap.size := by omega); (try have hz2 : w.heap.size + 2 < w1.heap.size := by omega); (try have hz3 : w.heap.size + 3 < w1.heap.size := by omega); (try have hcA := fun o => hc w.heap.size o (by first | omega | (simp; omega))); (try have hcB := fun o => hc (w.heap.size + 1) o (by first | omega | (simp; omega)))))
        all_goals go_wp2_with fail
        all_goals go_roundw
        case rel => exact ⟨k + 1, by omega, by go_num, by (repeat' first | (with_reducible exact Below.refl _ _) | (with_reducible refine Below.setCell ?_ (by first | omega | (simp; done) | (simp; omega)) _) | (with_reducible refine Below.alloc ?_ (by first | omega | (simp; done) | (simp; omega)) _) | refine below_drewN ?_ _ | refine Below.drew ?_ | (refine below_thru (by assumption) ?_ (by first | omega | (simp; done) | (simp; omega))) | exact Below.refl _ _), by (repeat' first | (with_reducible assumption) | (with_reducible exact Blk.new _ _ _) | (with_reducible refine Blk.drew_ ?_) | (with_reducible refine Blk.alloc ?_ _) | (refine Blk.below ?_ (by assumption) (by first | omega | (simp; done) | (simp; omega)))), by (repeat' first | (with_reducible assumption) | (with_reducible exact Blk.new _ _ _) | (with_reducible refine Blk.drew_ ?_) | (with_reducible refine Blk.alloc ?_ _) | (refine Blk.below ?_ (by assumption) (by first | omega | (simp; done) | (simp; omega)))), Lib.hid (by rw [hr2.out]; rfl)⟩
        case measure => simp [intOf]; omega
      · go_upto_region 4 with fail
        go_region_held3 (fun W => Below w.heap.size w W ∧ w.heap.size < W.heap.size ∧ w.heap.size + 1 < W.heap.size ∧ (∀ n0, W.cell? ⟨w.heap.size, n0, none⟩ = (#[(Value.bool (o).opaq), (Value.int .i64 (o).id), (Value.string ⟨((o).scheme).toArray⟩), (Value.string ⟨(((o).host).name).toArray⟩), (Value.bool ((o).host).v4), (Value.int .u32 (((o).host).addr : Int)), (Value.int .i64 (o).port)] : Array Value)[n0]?) ∧ (∀ n0, W.cell? ⟨w.heap.size + 1, n0, none⟩ = (#[(Value.bool (self).opaq), (Value.int .i64 (self).id), (Value.string ⟨((self).scheme).toArray⟩), (Value.string ⟨(((self).host).name).toArray⟩), (Value.bool ((self).host).v4), (Value.int .u32 (((self).host).addr : Int)), (Value.int .i64 (self).port)] : Array Value)[n0]?) ∧ W.cell? ⟨sb, so + k, none⟩ = some ((Value.string ⟨(x).toArray⟩))) ((refine ⟨by (repeat' first | (with_reducible exact Below.refl _ _) | (with_reducible refine Below.setCell ?_ (by first | omega | (simp; done) | (simp; omega)) _) | (with_reducible refine Below.alloc ?_ (by first | omega | (simp; done) | (simp; omega)) _) | refine below_drewN ?_ _ | refine Below.drew ?_ | (refine below_thru (by assumption) ?_ (by first | omega | (simp; done) | (simp; omega))) | exact Below.refl _ _), by first | omega | (simp; omega), by first | omega | (simp; omega), by exact Blk.cell (t := 31) (by (repeat' first | (with_reducible assumption) | (with_reducible exact Blk.new _ _ _) | (with_reducible refine Blk.drew_ ?_) | (with_reducible refine Blk.alloc ?_ _) | (refine Blk.below ?_ (by assumption) (by first | omega | (simp; done) | (simp; omega))))), by exact Blk.cell (t := 31) (by (repeat' first | (with_reducible assumption) | (with_reducible exact Blk.new _ _ _) | (with_reducible refine Blk.drew_ ?_) | (with_reducible refine Blk.alloc ?_ _) | (refine Blk.below ?_ (by assumption) (by first | omega | (simp; done) | (simp; omega))))), ?_⟩; exact hx0 _ (by (repeat' first | (with_reducible exact Below.refl _ _) | (with_reducible refine Below.setCell ?_ (by first | omega | (simp; done) | (simp; omega)) _) | (with_reducible refine Below.alloc ?_ (by first | omega | (simp; done) | (simp; omega)) _) | refine below_drewN ?_ _ | refine Below.drew ?_ | (refine below_thru (by assumption) ?_ (by first | omega | (simp; done) | (simp; omega))) | exact Below.refl _ _))))
          (first | (go_at_call 78; refine ( hp.out _ (by (repeat' first | (with_reducible exact Below.refl _ _) | (with_reducible refine Below.setCell ?_ (by first | omega | (simp; done) | (simp; omega)) _) | (with_reducible refine Below.alloc ?_ (by first | omega | (simp; done) | (simp; omega)) _) | refine below_drewN ?_ _ | refine Below.drew ?_ | (refine below_thru (by assumption) ?_ (by first | omega | (simp; done) | (simp; omega))) | exact Below.refl _ _))).mono ?_; rintro e w1 ⟨rfl, hb⟩; obtain ⟨hc, hfz⟩ := bcell hb; have hz := hb.size; (try simp at hz); (try have hz0 : w.heap.size < w1.heap.size := by omega); (try have hz1 : w.heap.size + 1 < w1.heap.size := by omega); (try have hz2 : w.heap.size + 2 < w1.heap.size := by omega); (try have hz3 : w.heap.size + 3 < w1.heap.size := by omega); (try have hcA := fun o => hc w.heap.size o (by first | omega | (simp; omega))); (try have hcB := fun o => hc (w.heap.size + 1) o (by first | omega | (simp; omega)))) | (go_at_call 77; refine ( hm.out _ (by (repeat' first | (with_reducible exact Below.refl _ _) | (with_reducible refine Below.setCell ?_ (by first | omega | (simp; done) | (simp; omega)) _) | (with_reducible refine Below.alloc ?_ (by first | omega | (simp; done) | (simp; omega)) _) | refine below_drewN ?_ _ | refine Below.drew ?_ | (refine below_thru (by assumption) ?_ (by first | omega | (simp; done) | (simp; omega))) | exact Below.refl _ _))).mono ?_; rintro e w1 ⟨rfl, hb⟩; obtain ⟨hc, hfz⟩ := bcell hb; have hz := hb.size; (try simp at hz); (try have hz0 : w.heap.size < w1.heap.size := by omega); (try have hz1 : w.heap.size + 1 < w1.heap.size := by omega); (try have hz2 : w.heap.size + 2 < w1.heap.size := by omega); (try have hz3 : w.heap.size + 3 < w1.heap.size := by omega); (try have hcA := fun o => hc w.heap.size o (by first | omega | (simp; omega))); (try have hcB := fun o => hc (w.heap.size + 1) o (by first | omega | (simp; omega)))))
        all_goals go_wp2_with fail
        all_goals go_ret
        all_goals exact ⟨by rw [hr2.out] <;> rfl, by (repeat' first | (with_reducible exact Below.refl _ _) | (with_reducible refine Below.setCell ?_ (by first | omega | (simp; done) | (simp; omega)) _) | (with_reducible refine Below.alloc ?_ (by first | omega | (simp; done) | (simp; omega)) _) | refine below_drewN ?_ _ | refine Below.drew ?_ | (refine below_thru (by assumption) ?_ (by first | omega | (simp; done) | (simp; omega))) | exact Below.refl _ _)⟩
    · have hf : Hid (R = false) := Lib.hid (by rw [hr.out, List.drop_eq_nil_of_le (by omega)]; rfl)
      clear hr
      go_wp2_with fail
      go_ret
      exact ⟨by rw [hf.out] <;> rfl, by (repeat' first | (with_reducible exact Below.refl _ _) | (with_reducible refine Below.setCell ?_ (by first | omega | (simp; done) | (simp; omega)) _) | (with_reducible refine Below.alloc ?_ (by first | omega | (simp; done) | (simp; omega)) _) | refine below_drewN ?_ _ | refine Below.drew ?_ | (refine below_thru (by assumption) ?_ (by first | omega | (simp; done) | (simp; omega))) | exact Below.refl _ _)⟩
end Go.Proofs.YtkfoogmncokjnaaGreatDoor
