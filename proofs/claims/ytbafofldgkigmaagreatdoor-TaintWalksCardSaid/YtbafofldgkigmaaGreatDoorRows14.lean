/- Arguments opened: rows of heads, hops, rows of hops. -/
import Derived.Test.YtbafofldgkigmaaGreatDoorRows18
import Derived.Test.YtbafofldgkigmaaGreatDoorHop
namespace Go.Proofs.YtbafofldgkigmaaGreatDoor
open Go.ChangeShapes Go.WideShapes Go.ChangeAt Go.RowKit Go.Deep
section
variable {H : Type} {enc : TypeId × Value → H} {w : World} {base : Nat} {spare : Nat → Bool} {held : Bool}
theorem trod_strB {P : Program} {t : TypeId} (ht : P.underlying t = some .string) {fuel : Nat} {cs : List Value} {x : DataW H × List MemPlace} (h : DataW.trod enc P w base spare held fuel t cs = some x) : ∃ l : List UInt8, cs = [(Value.string ⟨(l).toArray⟩)] ∧ l.length ≤ maxLen ∧ l.length ≤ Rows.uptoBulk x.1 := by
  obtain ⟨s, rfl, rfl, hs⟩ := DataW.trod_string ht h
  exact ⟨s.data.toList, by rw [← ba_list], hs, by simp [Rows.uptoBulk]⟩
set_option maxRecDepth 100000 in
/-- A URL, read as data: nine cells. -/
theorem open_url_cells {fuel : Nat} {cs : List Value} {x : DataW H × List MemPlace} (h : DataW.trod enc Tryz.prog w base spare held fuel 28 cs = some x) :
    ∃ u : Gl.URL, cs = [(Value.string ⟨((u).scheme).toArray⟩), (Value.string ⟨(((u).host).name).toArray⟩), (Value.bool ((u).host).v4), (Value.int .u32 (((u).host).addr : Int)), (Value.int .i64 (u).port), (Value.string ⟨((u).path).toArray⟩), (Value.bool (u).hasQuery), (Value.string ⟨((u).query).toArray⟩), (Value.string ⟨((u).rest).toArray⟩)] ∧ UrlFits u ∧ u.rest.length ≤ Rows.uptoBulk x.1 := by
  obtain ⟨xs, n, _, hx, hl, hlen, hf⟩ := DataW.trod_struct Tryz.underlying28 h
  rw [show (Tryz.prog).cellsOf 28 = 9 by kernel_rfl] at hl
  match cs, hl with
  | [c0, c1, c2, c3, c4, c5, c6, c7, c8], _ =>
    have f0 := hf 0 _ rfl
    have f1 := hf 1 _ rfl
    have f2 := hf 2 _ rfl
    have f3 := hf 3 _ rfl
    have f4 := hf 4 _ rfl
    have f5 := hf 5 _ rfl
    have f6 := hf 6 _ rfl
    simp only [show (Tryz.prog).cellsOf 9 = 1 by kernel_rfl, show (Tryz.prog).cellsOf 4 = 1 by kernel_rfl, show (Tryz.prog).cellsOf 3 = 1 by kernel_rfl, show (Tryz.prog).cellsOf 26 = 3 by kernel_rfl, List.getElem_toArray, List.getElem_cons_zero, List.getElem_cons_succ, List.drop_zero, List.drop_succ_cons, List.take_succ_cons, List.take_zero] at f0 f1 f2 f3 f4 f5 f6
    have hlen7 : xs.length = 7 := hlen
    match xs, hlen7 with
    | [y0, y1, y2, y3, y4, y5, y6], _ =>
      obtain ⟨l0, h0, hs0⟩ := trod_str Tryz.underlying9 f0
      obtain ⟨hst, h1, hs1, ha⟩ := open_host_cells f1
      obtain ⟨k, h2, hk⟩ := trod_i64 Tryz.underlying3 f2
      obtain ⟨l3, h3, hs3⟩ := trod_str Tryz.underlying9 f3
      obtain ⟨b, h4⟩ := trod_boo Tryz.underlying4 f4
      obtain ⟨l5, h5, hs5⟩ := trod_str Tryz.underlying9 f5
      obtain ⟨l6, h6, hs6, hb6⟩ := trod_strB Tryz.underlying9 f6
      simp only [List.cons.injEq, and_true] at h0 h1 h2 h3 h4 h5 h6
      obtain ⟨h1a, h1b, h1c⟩ := h1
      subst h0 h1a h1b h1c h2 h3 h4 h5 h6
      have hb := bounds_i64 hk
      have hd : x.1 = .agg [y0.1, y1.1, y2.1, y3.1, y4.1, y5.1, y6.1] := congrArg Prod.fst hx
      have k6 : Rows.uptoBulk y6.1 ≤ Rows.uptoBulk x.1 := by rw [hd]; exact bulk_part (by simp)
      exact ⟨{ scheme := l0, host := hst, port := k, path := l3, hasQuery := b, query := l5, rest := l6 }, rfl, ⟨hs0, hs1, ha, hb, hs3, hs5, hs6⟩, Nat.le_trans hb6 k6⟩
set_option maxRecDepth 100000 in
theorem open_head_cells {fuel : Nat} {cs : List Value} {x : DataW H × List MemPlace} (h : DataW.trod enc Tryz.prog w base spare held fuel 39 cs = some x) :
    ∃ h : Gl.Head, cs = (hcells h).toList := by
  obtain ⟨xs, n, _, _, hl, hlen, hf⟩ := DataW.trod_struct Tryz.underlying39 h
  rw [show (Tryz.prog).cellsOf 39 = 2 by kernel_rfl] at hl
  match cs, hl with
  | [c0, c1], _ =>
    have f0 := hf 0 _ rfl
    have f1 := hf 1 _ rfl
    simp only [show (Tryz.prog).cellsOf 9 = 1 by kernel_rfl, List.getElem_toArray, List.getElem_cons_zero, List.getElem_cons_succ, List.drop_zero, List.drop_succ_cons, List.take_succ_cons, List.take_zero] at f0 f1
    have hlen2 : xs.length = 2 := hlen
    match xs, hlen2 with
    | [y0, y1], _ =>
      obtain ⟨l0, h0, _⟩ := trod_str Tryz.underlying9 f0
      obtain ⟨l1, h1, _⟩ := trod_str Tryz.underlying9 f1
      simp only [List.cons.injEq, and_true] at h0 h1
      subst h0 h1
      exact ⟨⟨l0, l1⟩, rfl⟩
set_option maxRecDepth 100000 in
theorem heads_of_trod {fuel : Nat} {v : Value} {x : DataW H × List MemPlace} (h : DataW.trod enc Tryz.prog w 0 (fun _ => true) held fuel 29 [v] = some x) :
    ∃ L : List Gl.Head, Heads w v L ∧ L.length ≤ Rows.uptoBulk x.1 := by
  obtain ⟨L, hL, hl, hQ⟩ := open_slotsB (Q := fun cs _ => ∃ h : Gl.Head, cs = (hcells h).toList) Tryz.underlying29 (show (Tryz.prog).cellsOf 39 = 2 by kernel_rfl) (by decide) (fun _ _ _ h => open_head_cells h) h
  obtain ⟨As, rfl, _⟩ := list_of (f := hcells) (Q := fun _ => True) L (fun c hc => by obtain ⟨⟨k, _, h, hh⟩, _⟩ := hQ c hc; exact ⟨h, hh, trivial⟩)
  exact ⟨As, hL, by simpa using hl⟩
set_option maxRecDepth 100000 in
theorem open_heads {v : Value} {d : DataW H} {p : List MemPlace} {r : Reach} {b0 : Nat} (hval : Value.okWide Tryz.prog w r b0 29 v) (hd : DataW.Trod enc Tryz.prog w 0 (fun _ => true) held 29 v d p) :
    ∃ L : List Gl.Head, Heads w v L := by
  obtain ⟨fuel, h⟩ := hd
  obtain ⟨A, n, c, rfl⟩ := okWide_slice Tryz.underlying29 hval
  obtain ⟨L, hL, _⟩ := heads_of_trod h
  exact ⟨L, hL⟩
set_option maxRecDepth 100000 in
theorem open_hop_cells {fuel : Nat} {cs : List Value} {x : DataW H × List MemPlace} (h : DataW.trod enc Tryz.prog w 0 (fun _ => true) held fuel 31 cs = some x) :
    ∃ h : Gl.Hop, cs = (hopcells h).toList ∧ Heads w h.vh h.head ∧ UrlFits h.url ∧ h.url.rest.length ≤ Rows.uptoBulk x.1 := by
  obtain ⟨xs, n, _, hx, hl, hlen, hf⟩ := DataW.trod_struct Tryz.underlying31 h
  rw [show (Tryz.prog).cellsOf 31 = 10 by kernel_rfl] at hl
  match cs, hl with
  | [c0, c1, c2, c3, c4, c5, c6, c7, c8, c9], _ =>
    have f0 := hf 0 _ rfl
    have f1 := hf 1 _ rfl
    simp only [show (Tryz.prog).cellsOf 29 = 1 by kernel_rfl, show (Tryz.prog).cellsOf 28 = 9 by kernel_rfl, List.getElem_toArray, List.getElem_cons_zero, List.getElem_cons_succ, List.drop_zero, List.drop_succ_cons, List.take_succ_cons, List.take_zero] at f0 f1
    have hlen2 : xs.length = 2 := hlen
    match xs, hlen2 with
    | [y0, y1], _ =>
      obtain ⟨u, h0, hu, hb⟩ := open_url_cells f0
      obtain ⟨L, hL, _⟩ := heads_of_trod f1
      simp only [List.cons.injEq, and_true] at h0
      obtain ⟨rfl, rfl, rfl, rfl, rfl, rfl, rfl, rfl, rfl⟩ := h0
      have hd : x.1 = .agg [y0.1, y1.1] := congrArg Prod.fst hx
      have k0 : Rows.uptoBulk y0.1 ≤ Rows.uptoBulk x.1 := by rw [hd]; exact bulk_part (by simp)
      exact ⟨⟨u, c9, L⟩, rfl, hL, hu, Nat.le_trans hb k0⟩
set_option maxRecDepth 100000 in
theorem open_hop {v : Value} {d : DataW H} {p : List MemPlace} {r : Reach} {b0 : Nat} (hval : Value.okWide Tryz.prog w r b0 31 v) (hd : DataW.Trod enc Tryz.prog w 0 (fun _ => true) held 31 v d p) :
    ∃ (u : Gl.URL) (vh : Value) (hl : List Gl.Head), v = .agg #[(Value.string ⟨((u).scheme).toArray⟩), (Value.string ⟨(((u).host).name).toArray⟩), (Value.bool ((u).host).v4), (Value.int .u32 (((u).host).addr : Int)), (Value.int .i64 (u).port), (Value.string ⟨((u).path).toArray⟩), (Value.bool (u).hasQuery), (Value.string ⟨((u).query).toArray⟩), (Value.string ⟨((u).rest).toArray⟩), vh] ∧ Heads w vh hl ∧ UrlFits u ∧ u.rest.length ≤ Rows.uptoBulk d := by
  unfold Value.okWide at hval
  rw [Tryz.underlying31] at hval
  obtain ⟨cs, rfl, hsz, _⟩ := hval
  obtain ⟨fuel, h⟩ := hd
  obtain ⟨cs⟩ := cs
  obtain ⟨hp, h1, h2, h3, h4⟩ := open_hop_cells (show DataW.trod enc Tryz.prog w 0 (fun _ => true) held fuel 31 cs = _ from h)
  subst h1
  exact ⟨hp.url, hp.vh, hp.head, rfl, h2, h3, h4⟩
set_option maxRecDepth 100000 in
theorem open_hops {v : Value} {d : DataW H} {p : List MemPlace} {r : Reach} {b0 : Nat} (hval : Value.okWide Tryz.prog w r b0 55 v) (hd : DataW.Trod enc Tryz.prog w 0 (fun _ => true) held 55 v d p) :
    ∃ L : List Gl.Hop, Hops w v L ∧ (∀ h ∈ L, UrlFits h.url) ∧ L.length ≤ Rows.uptoBulk d := by
  obtain ⟨fuel, h⟩ := hd
  obtain ⟨A, n, c, rfl⟩ := okWide_slice Tryz.underlying55 hval
  obtain ⟨L, hL, hl, hQ⟩ := open_slotsB (Q := fun cs _ => ∃ h : Gl.Hop, cs = (hopcells h).toList ∧ Heads w h.vh h.head ∧ UrlFits h.url) Tryz.underlying55 (show (Tryz.prog).cellsOf 31 = 10 by kernel_rfl) (by decide) (fun _ _ _ h => by obtain ⟨h, a, b, c, _⟩ := open_hop_cells h; exact ⟨h, a, b, c⟩) h
  obtain ⟨As, rfl, hA⟩ := list_of (f := hopcells) (Q := fun h => Heads w h.vh h.head ∧ UrlFits h.url) L (fun c hc => by obtain ⟨⟨k, _, h, h1, h2, h3⟩, _⟩ := hQ c hc; exact ⟨h, h1, h2, h3⟩)
  exact ⟨As, ⟨hL, fun h hh => (hA h hh).1⟩, fun h hh => (hA h hh).2, by simpa using hl⟩
end
end Go.Proofs.YtbafofldgkigmaaGreatDoor
