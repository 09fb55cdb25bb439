/- Arguments opened: source expressions, policies, rows of origins. -/
import Derived.Test.YtbafofldgkigmaaGreatDoorRows4
import Derived.Test.YtbafofldgkigmaaGreatDoorSlots
import Derived.Test.YtbafofldgkigmaaGreatDoorEleven
import Derived.Deep.Slices
namespace Go.Proofs.YtbafofldgkigmaaGreatDoor
open Go.ChangeShapes Go.WideShapes Go.ChangeAt Go.RowKit Go.Deep
section
variable {H : Type} {enc : TypeId × Value → H} {w : World} {base : Nat} {spare : Nat → Bool} {held : Bool}
structure SourceFits (s : Gl.Source) : Prop where
  kind : -9223372036854775808 ≤ s.kind ∧ s.kind ≤ 9223372036854775807
  scheme : s.scheme.length ≤ maxLen
  host : s.host.length ≤ maxLen
  port : -9223372036854775808 ≤ s.port ∧ s.port ≤ 9223372036854775807
set_option maxRecDepth 100000 in
theorem texts_of_trod {fuel : Nat} {v : Value} {x : DataW H × List MemPlace} (h : DataW.trod enc Tryz.prog w 0 (fun _ => true) held fuel 32 [v] = some x) : ∃ S : List (List UInt8), Strs w w.heap.size v S := by
  rcases open_strings Tryz.underlying32 Tryz.underlying9 (by kernel_rfl) h with ⟨hc, _⟩ | ⟨a, n, c, ss, hc, _, hl, hm, hss, _, hcell, _⟩
  · simp only [List.cons.injEq, and_true] at hc
    subst hc
    exact ⟨[], none, 0, rfl, Nat.le_refl _, Nat.zero_le _, fun h => absurd h (Nat.lt_irrefl _)⟩
  · simp only [List.cons.injEq, and_true] at hc
    subst hc
    simp only [if_true] at hss
    have hlen : ((ss.take n).map (fun s => s.data.toList)).length = n := by simp; omega
    refine ⟨(ss.take n).map (fun s => s.data.toList), some a, c, by rw [hlen], by rw [hlen]; exact hl, hm, fun h0 => ?_⟩
    rw [hlen] at h0
    have hc0 := hcell 0 (by omega)
    obtain ⟨b, off, spot⟩ := a
    have hspot : spot = none := by simpa [Addr.add] using World.cell?_spot hc0
    subst hspot
    refine ⟨b, off, rfl, ?_, fun j hj => ?_⟩
    · have := World.block_lt_of_cell? w _ hc0
      simpa [Addr.add] using this
    · rw [hlen] at hj
      have := hcell j (by omega)
      rw [Go.WideShapes.add_plain] at this
      rw [this, List.getD_eq_getElem?_getD, List.getElem?_eq_getElem (show j < ss.length by omega)]
      simp
theorem slice_of_trod {P : Program} {t e : TypeId} {fuel : Nat} {v : Value} {x : DataW H × List MemPlace} (ht : P.underlying t = some (.slice e)) (h : DataW.trod enc P w base spare held fuel t [v] = some x) : ∃ A n c, v = .slice A n c := by
  rcases open_slice ht h with ⟨hc, _⟩ | ⟨a, len, cap, m, n, D, Pl, hc, _⟩
  · simp only [List.cons.injEq, and_true] at hc
    exact ⟨_, _, _, hc⟩
  · simp only [List.cons.injEq, and_true] at hc
    exact ⟨_, _, _, hc⟩
set_option maxRecDepth 100000 in
/-- An origin, read as data: seven cells. -/
theorem open_origin_cells {fuel : Nat} {cs : List Value} {x : DataW H × List MemPlace} (h : DataW.trod enc Tryz.prog w base spare held fuel 35 cs = some x) :
    ∃ o : Gl.Origin, cs = (ocells o).toList ∧ OriginFits o := by
  obtain ⟨xs, n, _, _, hl, hlen, hf⟩ := DataW.trod_struct Tryz.underlying35 h
  rw [show (Tryz.prog).cellsOf 35 = 7 by kernel_rfl] at hl
  match cs, hl with
  | [c0, c1, c2, c3, c4, c5, c6], _ =>
    have f0 := hf 0 _ rfl
    have f1 := hf 1 _ rfl
    have f2 := hf 2 _ rfl
    have f3 := hf 3 _ rfl
    have f4 := hf 4 _ rfl
    simp only [show (Tryz.prog).cellsOf 9 = 1 by kernel_rfl, show (Tryz.prog).cellsOf 4 = 1 by kernel_rfl, show (Tryz.prog).cellsOf 3 = 1 by kernel_rfl, show (Tryz.prog).cellsOf 26 = 3 by kernel_rfl, List.getElem_toArray, List.getElem_cons_zero, List.getElem_cons_succ, List.drop_zero, List.drop_succ_cons, List.take_succ_cons, List.take_zero] at f0 f1 f2 f3 f4
    have g : ∀ i : Nat, i < 5 → ∃ y, xs[i]? = some y := fun i hi => ⟨xs[i]'(by rw [hlen]; exact hi), List.getElem?_eq_getElem _⟩
    obtain ⟨y0, e0⟩ := g 0 (by decide)
    obtain ⟨y1, e1⟩ := g 1 (by decide)
    obtain ⟨y2, e2⟩ := g 2 (by decide)
    obtain ⟨y3, e3⟩ := g 3 (by decide)
    obtain ⟨y4, e4⟩ := g 4 (by decide)
    obtain ⟨b, h0⟩ := trod_boo Tryz.underlying4 (f0.trans e0)
    obtain ⟨k1, h1, hk1⟩ := trod_i64 Tryz.underlying3 (f1.trans e1)
    obtain ⟨l2, h2, hs2⟩ := trod_str Tryz.underlying9 (f2.trans e2)
    obtain ⟨hst, h3, hs3, ha⟩ := open_host_cells (f3.trans e3)
    obtain ⟨k4, h4, hk4⟩ := trod_i64 Tryz.underlying3 (f4.trans e4)
    simp only [List.cons.injEq, and_true] at h0 h1 h2 h3 h4
    obtain ⟨h3a, h3b, h3c⟩ := h3
    subst h0 h1 h2 h3a h3b h3c h4
    exact ⟨{ opaq := b, id := k1, scheme := l2, host := hst, port := k4 }, rfl, hs2, hs3, ha, bounds_i64 hk1, bounds_i64 hk4⟩
/-- A slice of structs of n cells, each of which reads as Q has it. -/
theorem open_slots {P : Program} {t e : TypeId} {n : Nat} (ht : P.underlying t = some (.slice e)) (hn : P.cellsOf e = n) (h0 : 0 < n) {Q : List Value → Prop} (hQ : ∀ fuel cs x, DataW.trod enc P w 0 (fun _ => true) held fuel e cs = some x → Q cs)
    {fuel : Nat} {v : Value} {x : DataW H × List MemPlace} (h : DataW.trod enc P w 0 (fun _ => true) held fuel t [v] = some x) : ∃ L : List (Array Value), Slots w w.heap.size v n L ∧ ∀ c ∈ L, Q c.toList ∧ c.size = n := by
  rcases open_slice ht h with ⟨hc, _⟩ | ⟨a, len, cap, m, k, D, Pl, hc, _, hl, hm, hmm, _, hx⟩
  · simp only [List.cons.injEq, and_true] at hc
    subst hc
    exact ⟨[], Slots.empty w n, by simp⟩
  · simp only [List.cons.injEq, and_true] at hc
    subst hc
    simp only [if_true] at hmm
    subst hmm
    rw [hn] at hx
    obtain ⟨V, hV⟩ := choose_lt (α := List Value) (p := fun i cs' => w.cells? 0 (a.add (i * n)) n = some cs' ∧ Q cs') (n := m) (fun i hi => by
      obtain ⟨cs', h1, h2⟩ := hx i hi
      exact ⟨cs', h1, hQ _ _ _ h2⟩)
    have hlen : ((List.range len).map fun i => (V i).toArray).length = len := by simp
    refine ⟨(List.range len).map fun i => (V i).toArray, ⟨some a, m, by rw [hlen], by rw [hlen]; exact hl, hm, fun hp => ?_⟩, ?_⟩
    · rw [hlen] at hp
      obtain ⟨_, hsz, hat⟩ := World.cells?_some (hV 0 (by omega)).1
      have h00 := hat 0 h0
      obtain ⟨b, off, spot⟩ := a
      have hcell : ∃ u, w.cell? ((⟨b, off, spot⟩ : Addr).add 0) = some u := ⟨(V 0)[0]'(by omega), by have := h00; simp only [Nat.zero_mul] at this; rw [show ((⟨b, off, spot⟩ : Addr).add 0).add 0 = (⟨b, off, spot⟩ : Addr).add 0 from by simp [Addr.add]] at this; rw [this]; exact List.getElem?_eq_getElem _⟩
      obtain ⟨u, hu⟩ := hcell
      have hspot : spot = none := by simpa [Addr.add] using World.cell?_spot hu
      subst hspot
      refine ⟨b, off, rfl, ?_, fun j hj i hi => ?_⟩
      · have := World.block_lt_of_cell? w _ hu
        simpa [Addr.add] using this
      · rw [hlen] at hj
        obtain ⟨_, hsz, hat⟩ := World.cells?_some (hV j (by omega)).1
        have := hat i hi
        rw [Go.WideShapes.add_plain, Go.WideShapes.add_plain] at this
        rw [this]
        simp
    · intro c hc
      obtain ⟨i, hi, rfl⟩ := List.mem_map.1 hc
      have hi' : i < len := List.mem_range.1 hi
      obtain ⟨_, hsz, _⟩ := World.cells?_some (hV i (by omega)).1
      exact ⟨(hV i (by omega)).2, by simpa using hsz⟩
theorem list_of {α : Type} {f : α → Array Value} {Q : α → Prop} : ∀ L : List (Array Value), (∀ c ∈ L, ∃ o, c.toList = (f o).toList ∧ Q o) → ∃ As : List α, L = As.map f ∧ ∀ a ∈ As, Q a := by
  intro L
  induction L with
  | nil => intro _; exact ⟨[], rfl, by simp⟩
  | cons c r ih =>
    intro h
    obtain ⟨o, ho, hq⟩ := h c (by simp)
    obtain ⟨As, hr, hA⟩ := ih (fun c hc => h c (by simp [hc]))
    exact ⟨o :: As, by rw [List.map_cons, ← hr, show c = f o from Array.toList_inj.1 ho], by intro a ha; rcases List.mem_cons.1 ha with rfl | ha; exact hq; exact hA a ha⟩
end
end Go.Proofs.YtbafofldgkigmaaGreatDoor
