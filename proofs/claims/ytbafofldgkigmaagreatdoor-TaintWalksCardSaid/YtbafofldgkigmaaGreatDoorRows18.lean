/- Arguments opened, with the bulk of their readings: rows of texts, of origins, of integers, of policies; containers; embedder policies. -/
import Derived.Test.YtbafofldgkigmaaGreatDoorRows11
import Derived.Test.YtbafofldgkigmaaGreatDoorTrods
import Derived.Test.YtbafofldgkigmaaGreatDoorPols
import Derived.Test.YtbafofldgkigmaaGreatDoorRows
namespace Go.Proofs.YtbafofldgkigmaaGreatDoor
open Go.ChangeShapes Go.WideShapes Go.ChangeAt Go.RowKit Go.Deep
section
variable {H : Type} {enc : TypeId × Value → H} {w : World} {base : Nat} {spare : Nat → Bool} {held : Bool}
theorem bulk_pos (d : DataW H) : 1 ≤ Rows.uptoBulk d := by
  cases d with
  | lit l => cases l <;> simp [Rows.uptoBulk]
  | _ => simp [Rows.uptoBulk]
theorem bulk_mem : ∀ {ds : List (DataW H)} {d : DataW H}, d ∈ ds → Rows.uptoBulk d ≤ Rows.uptoBulkAll ds := by
  intro ds
  induction ds with
  | nil => intro d h; cases h
  | cons a r ih =>
    intro d h
    simp only [Rows.uptoBulkAll]
    rcases List.mem_cons.1 h with rfl | h
    · omega
    · have := ih h; omega
theorem bulk_len : ∀ (ds : List (DataW H)), ds.length ≤ Rows.uptoBulkAll ds := by
  intro ds
  induction ds with
  | nil => simp
  | cons a r ih => simp only [Rows.uptoBulkAll, List.length_cons]; have := bulk_pos a; omega
theorem bulk_part {ds : List (DataW H)} {d : DataW H} (h : d ∈ ds) : Rows.uptoBulk d ≤ Rows.uptoBulk (.agg ds) := by
  simp only [Rows.uptoBulk]
  have := bulk_mem h
  omega
set_option maxRecDepth 100000 in
theorem texts_of_trodB {fuel : Nat} {v : Value} {x : DataW H × List MemPlace} (h : DataW.trod enc Tryz.prog w 0 (fun _ => true) held fuel 32 [v] = some x) :
    ∃ S : List (List UInt8), Strs w w.heap.size v S ∧ S.length ≤ Rows.uptoBulk x.1 ∧ ∀ s ∈ S, s.length ≤ Rows.uptoBulk x.1 := by
  rcases open_strings Tryz.underlying32 Tryz.underlying9 (by kernel_rfl) h with ⟨hc, _⟩ | ⟨a, n, c, ss, hc, _, hl, hm, hss, hx, hcell, _⟩
  · simp only [List.cons.injEq, and_true] at hc
    subst hc
    exact ⟨[], ⟨none, 0, rfl, Nat.le_refl _, Nat.zero_le _, fun h => absurd h (Nat.lt_irrefl _)⟩, Nat.zero_le _, by simp⟩
  · simp only [List.cons.injEq, and_true] at hc
    subst hc
    simp only [if_true] at hss
    have hlen : ((ss.take n).map (fun s => s.data.toList)).length = n := by simp; omega
    have hb : Rows.uptoBulkAll (Go.ChangeShapes.strs (H := H) (ss.take n)) ≤ Rows.uptoBulk x.1 := by rw [hx]; simp only [Rows.uptoBulk]; omega
    refine ⟨(ss.take n).map (fun s => s.data.toList), ⟨some a, c, by rw [hlen], by rw [hlen]; exact hl, hm, fun h0 => ?_⟩, ?_, ?_⟩
    · rw [hlen] at h0
      have hc0 := hcell 0 (by omega)
      obtain ⟨b, off, spot⟩ := a
      have hspot : spot = none := by simpa [Addr.add] using World.cell?_spot hc0
      subst hspot
      refine ⟨b, off, rfl, ?_, fun j hj => ?_⟩
      · have := World.block_lt_of_cell? w _ hc0
        simpa [Addr.add] using this
      · rw [hlen] at hj
        have := hcell j (by omega)
        rw [Go.WideShapes.add_plain] at this
        rw [this, List.getD_eq_getElem?_getD, List.getElem?_eq_getElem (show j < ss.length by omega)]
        simp
    · refine Nat.le_trans ?_ hb
      refine Nat.le_trans ?_ (bulk_len _)
      simp [Go.ChangeShapes.strs]
    · intro s hs
      obtain ⟨y, hy, rfl⟩ := List.mem_map.1 hs
      refine Nat.le_trans ?_ hb
      have : (DataW.lit (.string y.data.toList) : DataW H) ∈ Go.ChangeShapes.strs (ss.take n) := by
        unfold Go.ChangeShapes.strs
        exact List.mem_map.2 ⟨y, hy, rfl⟩
      refine Nat.le_trans ?_ (bulk_mem this)
      simp [Rows.uptoBulk]
set_option maxRecDepth 100000 in
theorem open_textsB {v : Value} {d : DataW H} {p : List MemPlace} {r : Reach} {b0 : Nat} (hval : Value.okWide Tryz.prog w r b0 32 v) (hd : DataW.Trod enc Tryz.prog w 0 (fun _ => true) held 32 v d p) :
    ∃ S : List (List UInt8), Strs w w.heap.size v S ∧ S.length ≤ Rows.uptoBulk d ∧ ∀ s ∈ S, s.length ≤ Rows.uptoBulk d := by
  obtain ⟨fuel, h⟩ := hd
  obtain ⟨A, n, c, rfl⟩ := okWide_slice Tryz.underlying32 hval
  exact texts_of_trodB h
/-- A slice of structs of n cells, each of which reads as Q has it. -/
theorem open_slotsB {P : Program} {t e : TypeId} {n : Nat} (ht : P.underlying t = some (.slice e)) (hn : P.cellsOf e = n) (h0 : 0 < n) {Q : List Value → Nat → Prop} (hQ : ∀ fuel cs x, DataW.trod enc P w 0 (fun _ => true) held fuel e cs = some x → Q cs (Rows.uptoBulk x.1))
    {fuel : Nat} {v : Value} {x : DataW H × List MemPlace} (h : DataW.trod enc P w 0 (fun _ => true) held fuel t [v] = some x) : ∃ L : List (Array Value), Slots w w.heap.size v n L ∧ L.length ≤ Rows.uptoBulk x.1 ∧ ∀ c ∈ L, (∃ k, k ≤ Rows.uptoBulk x.1 ∧ Q c.toList k) ∧ c.size = n := by
  rcases open_slice ht h with ⟨hc, _⟩ | ⟨a, len, cap, m, k, D, Pl, hc, _, hl, hm, hmm, hx0, hx⟩
  · simp only [List.cons.injEq, and_true] at hc
    subst hc
    exact ⟨[], Slots.empty w n, Nat.zero_le _, by simp⟩
  · simp only [List.cons.injEq, and_true] at hc
    subst hc
    simp only [if_true] at hmm
    subst hmm
    have hb : Rows.uptoBulkAll ((List.range len).map D) ≤ Rows.uptoBulk x.1 := by rw [hx0]; simp only [Rows.uptoBulk]; omega
    rw [hn] at hx
    obtain ⟨V, hV⟩ := choose_lt (α := List Value) (p := fun i cs' => w.cells? 0 (a.add (i * n)) n = some cs' ∧ Q cs' (Rows.uptoBulk (D i))) (n := m) (fun i hi => by
      obtain ⟨cs', h1, h2⟩ := hx i hi
      exact ⟨cs', h1, hQ _ _ _ h2⟩)
    have hlen : ((List.range len).map fun i => (V i).toArray).length = len := by simp
    refine ⟨(List.range len).map fun i => (V i).toArray, ⟨some a, m, by rw [hlen], by rw [hlen]; exact hl, hm, fun hp => ?_⟩, ?_, ?_⟩
    · rw [hlen] at hp
      obtain ⟨_, hsz, hat⟩ := World.cells?_some (hV 0 (by omega)).1
      have h00 := hat 0 h0
      obtain ⟨b, off, spot⟩ := a
      have hcell : ∃ u, w.cell? ((⟨b, off, spot⟩ : Addr).add 0) = some u := ⟨(V 0)[0]'(by omega), by have := h00; simp only [Nat.zero_mul] at this; rw [show ((⟨b, off, spot⟩ : Addr).add 0).add 0 = (⟨b, off, spot⟩ : Addr).add 0 from by simp [Addr.add]] at this; rw [this]; exact List.getElem?_eq_getElem _⟩
      obtain ⟨u, hu⟩ := hcell
      have hspot : spot = none := by simpa [Addr.add] using World.cell?_spot hu
      subst hspot
      refine ⟨b, off, rfl, ?_, fun j hj i hi => ?_⟩
      · have := World.block_lt_of_cell? w _ hu
        simpa [Addr.add] using this
      · rw [hlen] at hj
        obtain ⟨_, hsz, hat⟩ := World.cells?_some (hV j (by omega)).1
        have := hat i hi
        rw [Go.WideShapes.add_plain, Go.WideShapes.add_plain] at this
        rw [this]
        simp
    · refine Nat.le_trans ?_ hb
      refine Nat.le_trans ?_ (bulk_len _)
      simp
    · intro c hc
      obtain ⟨i, hi, rfl⟩ := List.mem_map.1 hc
      have hi' : i < len := List.mem_range.1 hi
      obtain ⟨_, hsz, _⟩ := World.cells?_some (hV i (by omega)).1
      exact ⟨⟨_, Nat.le_trans (bulk_mem (List.mem_map.2 ⟨i, hi, rfl⟩)) hb, (hV i (by omega)).2⟩, by simpa using hsz⟩
theorem list_ofB {α : Type} {f : α → Array Value} {Q : α → Prop} : ∀ L : List (Array Value), (∀ c ∈ L, ∃ o, c.toList = (f o).toList ∧ Q o) → ∃ As : List α, L = As.map f ∧ ∀ a ∈ As, Q a := list_of
set_option maxRecDepth 100000 in
/-- An embedder policy, read as data: four cells. -/
theorem open_embedder_cells {fuel : Nat} {cs : List Value} {x : DataW H × List MemPlace} (h : DataW.trod enc Tryz.prog w base spare held fuel 23 cs = some x) :
    ∃ (ev er : Int) (et eu : List UInt8), cs = [.int .i64 ev, (Value.string ⟨(et).toArray⟩), .int .i64 er, (Value.string ⟨(eu).toArray⟩)] := by
  obtain ⟨xs, n, _, _, hl, hlen, hf⟩ := DataW.trod_struct Tryz.underlying23 h
  rw [show (Tryz.prog).cellsOf 23 = 4 by kernel_rfl] at hl
  match cs, hl with
  | [c0, c1, c2, c3], _ =>
    have f0 := hf 0 _ rfl
    have f1 := hf 1 _ rfl
    have f2 := hf 2 _ rfl
    have f3 := hf 3 _ rfl
    simp only [show (Tryz.prog).cellsOf 9 = 1 by kernel_rfl, show (Tryz.prog).cellsOf 3 = 1 by kernel_rfl, List.getElem_toArray, List.getElem_cons_zero, List.getElem_cons_succ, List.drop_zero, List.drop_succ_cons, List.take_succ_cons, List.take_zero] at f0 f1 f2 f3
    have g : ∀ i : Nat, i < 4 → ∃ y, xs[i]? = some y := fun i hi => ⟨xs[i]'(by rw [hlen]; exact hi), List.getElem?_eq_getElem _⟩
    obtain ⟨y0, e0⟩ := g 0 (by decide)
    obtain ⟨y1, e1⟩ := g 1 (by decide)
    obtain ⟨y2, e2⟩ := g 2 (by decide)
    obtain ⟨y3, e3⟩ := g 3 (by decide)
    obtain ⟨k0, h0, _⟩ := trod_i64 Tryz.underlying3 (f0.trans e0)
    obtain ⟨l1, h1, _⟩ := trod_str Tryz.underlying9 (f1.trans e1)
    obtain ⟨k2, h2, _⟩ := trod_i64 Tryz.underlying3 (f2.trans e2)
    obtain ⟨l3, h3, _⟩ := trod_str Tryz.underlying9 (f3.trans e3)
    simp only [List.cons.injEq, and_true] at h0 h1 h2 h3
    subst h0 h1 h2 h3
    exact ⟨k0, k2, l1, l3, rfl⟩
set_option maxRecDepth 100000 in
theorem open_embedder {v : Value} {d : DataW H} {p : List MemPlace} {r : Reach} {b0 : Nat} (hval : Value.okWide Tryz.prog w r b0 23 v) (hd : DataW.Trod enc Tryz.prog w base spare held 23 v d p) :
    ∃ (ev er : Int) (et eu : List UInt8), v = .agg #[.int .i64 ev, (Value.string ⟨(et).toArray⟩), .int .i64 er, (Value.string ⟨(eu).toArray⟩)] := by
  unfold Value.okWide at hval
  rw [Tryz.underlying23] at hval
  obtain ⟨cs, rfl, hsz, _⟩ := hval
  obtain ⟨fuel, h⟩ := hd
  obtain ⟨cs⟩ := cs
  obtain ⟨ev, er, et, eu, rfl⟩ := open_embedder_cells (show DataW.trod enc Tryz.prog w base spare held fuel 23 cs = _ from h)
  exact ⟨ev, er, et, eu, rfl⟩
end
end Go.Proofs.YtbafofldgkigmaaGreatDoor
