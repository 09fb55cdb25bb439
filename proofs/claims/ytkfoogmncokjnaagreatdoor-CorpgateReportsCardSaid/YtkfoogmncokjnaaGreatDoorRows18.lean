/- Arguments opened, with the bulk of their readings: rows of texts, of origins, of integers, of policies; containers; embedder policies. -/
import Derived.Test.YtkfoogmncokjnaaGreatDoorRows11
import Derived.Test.YtkfoogmncokjnaaGreatDoorTrods
import Derived.Test.YtkfoogmncokjnaaGreatDoorPols
import Derived.Test.YtkfoogmncokjnaaGreatDoorRows
namespace Go.Proofs.YtkfoogmncokjnaaGreatDoor
open Go.ChangeShapes Go.WideShapes Go.ChangeAt Go.RowKit Go.Deep
section
variable {H : Type} {enc : TypeId × Value → H} {w : World} {base : Nat} {spare : Nat → Bool} {held : Bool}
theorem bulk_pos (d : DataW H) : 1 ≤ Rows.uptoBulk d := by
  cases d with
  | lit l => cases l <;> simp [Rows.uptoBulk]
  | _ => simp [Rows.uptoBulk]
theorem bulk_mem : ∀ {ds : List (DataW H)} {d : DataW H}, d ∈ ds → Rows.uptoBulk d ≤ Rows.uptoBulkAll ds := by
  intro ds
  induction ds with
  | nil => intro d h; cases h
  | cons a r ih =>
    intro d h
    simp only [Rows.uptoBulkAll]
    rcases List.mem_cons.1 h with rfl | h
    · omega
    · have := ih h; omega
theorem bulk_len : ∀ (ds : List (DataW H)), ds.length ≤ Rows.uptoBulkAll ds := by
  intro ds
  induction ds with
  | nil => simp
  | cons a r ih => simp only [Rows.uptoBulkAll, List.length_cons]; have := bulk_pos a; omega
theorem bulk_part {ds : List (DataW H)} {d : DataW H} (h : d ∈ ds) : Rows.uptoBulk d ≤ Rows.uptoBulk (.agg ds) := by
  simp only [Rows.uptoBulk]
  have := bulk_mem h
  omega
set_option maxRecDepth 100000 in
theorem texts_of_trodB {fuel : Nat} {v : Value} {x : DataW H × List MemPlace} (h : DataW.trod enc Tryz.prog w 0 (fun _ => true) held fuel 43 [v] = some x) :
    ∃ S : List (List UInt8), Strs w w.heap.size v S ∧ S.length ≤ Rows.uptoBulk x.1 ∧ ∀ s ∈ S, s.length ≤ Rows.uptoBulk x.1 := by
  rcases open_strings Tryz.underlying43 Tryz.underlying9 (by kernel_rfl) h with ⟨hc, _⟩ | ⟨a, n, c, ss, hc, _, hl, hm, hss, hx, hcell, _⟩
  · simp only [List.cons.injEq, and_true] at hc
    subst hc
    exact ⟨[], ⟨none, 0, rfl, Nat.le_refl _, Nat.zero_le _, fun h => absurd h (Nat.lt_irrefl _)⟩, Nat.zero_le _, by simp⟩
  · simp only [List.cons.injEq, and_true] at hc
    subst hc
    simp only [if_true] at hss
    have hlen : ((ss.take n).map (fun s => s.data.toList)).length = n := by simp; omega
    have hb : Rows.uptoBulkAll (Go.ChangeShapes.strs (H := H) (ss.take n)) ≤ Rows.uptoBulk x.1 := by rw [hx]; simp only [Rows.uptoBulk]; omega
    refine ⟨(ss.take n).map (fun s => s.data.toList), ⟨some a, c, by rw [hlen], by rw [hlen]; exact hl, hm, fun h0 => ?_⟩, ?_, ?_⟩
    · rw [hlen] at h0
      have hc0 := hcell 0 (by omega)
      obtain ⟨b, off, spot⟩ := a
      have hspot : spot = none := by simpa [Addr.add] using World.cell?_spot hc0
      subst hspot
      refine ⟨b, off, rfl, ?_, fun j hj => ?_⟩
      · have := World.block_lt_of_cell? w _ hc0
        simpa [Addr.add] using this
      · rw [hlen] at hj
        have := hcell j (by omega)
        rw [Go.WideShapes.add_plain] at this
        rw [this, List.getD_eq_getElem?_getD, List.getElem?_eq_getElem (show j < ss.length by omega)]
        simp
    · refine Nat.le_trans ?_ hb
      refine Nat.le_trans ?_ (bulk_len _)
      simp [Go.ChangeShapes.strs]
    · intro s hs
      obtain ⟨y, hy, rfl⟩ := List.mem_map.1 hs
      refine Nat.le_trans ?_ hb
      have : (DataW.lit (.string y.data.toList) : DataW H) ∈ Go.ChangeShapes.strs (ss.take n) := by
        unfold Go.ChangeShapes.strs
        exact List.mem_map.2 ⟨y, hy, rfl⟩
      refine Nat.le_trans ?_ (bulk_mem this)
      simp [Rows.uptoBulk]
set_option maxRecDepth 100000 in
theorem open_textsB {v : Value} {d : DataW H} {p : List MemPlace} {r : Reach} {b0 : Nat} (hval : Value.okWide Tryz.prog w r b0 43 v) (hd : DataW.Trod enc Tryz.prog w 0 (fun _ => true) held 43 v d p) :
    ∃ S : List (List UInt8), Strs w w.heap.size v S ∧ S.length ≤ Rows.uptoBulk d ∧ ∀ s ∈ S, s.length ≤ Rows.uptoBulk d := by
  obtain ⟨fuel, h⟩ := hd
  obtain ⟨A, n, c, rfl⟩ := okWide_slice Tryz.underlying43 hval
  exact texts_of_trodB h
/-- A slice of structs of n cells, each of which reads as Q has it. -/
theorem open_slotsB {P : Program} {t e : TypeId} {n : Nat} (ht : P.underlying t = some (.slice e)) (hn : P.cellsOf e = n) (h0 : 0 < n) {Q : List Value → Nat → Prop} (hQ : ∀ fuel cs x, DataW.trod enc P w 0 (fun _ => true) held fuel e cs = some x → Q cs (Rows.uptoBulk x.1))
    {fuel : Nat} {v : Value} {x : DataW H × List MemPlace} (h : DataW.trod enc P w 0 (fun _ => true) held fuel t [v] = some x) : ∃ L : List (Array Value), Slots w w.heap.size v n L ∧ L.length ≤ Rows.uptoBulk x.1 ∧ ∀ c ∈ L, (∃ k, k ≤ Rows.uptoBulk x.1 ∧ Q c.toList k) ∧ c.size = n := by
  rcases open_slice ht h with ⟨hc, _⟩ | ⟨a, len, cap, m, k, D, Pl, hc, _, hl, hm, hmm, hx0, hx⟩
  · simp only [List.cons.injEq, and_true] at hc
    subst hc
    exact ⟨[], Slots.empty w n, Nat.zero_le _, by simp⟩
  · simp only [List.cons.injEq, and_true] at hc
    subst hc
    simp only [if_true] at hmm
    subst hmm
    have hb : Rows.uptoBulkAll ((List.range len).map D) ≤ Rows.uptoBulk x.1 := by rw [hx0]; simp only [Rows.uptoBulk]; omega
    rw [hn] at hx
    obtain ⟨V, hV⟩ := choose_lt (α := List Value) (p := fun i cs' => w.cells? 0 (a.add (i * n)) n = some cs' ∧ Q cs' (Rows.uptoBulk (D i))) (n := m) (fun i hi => by
      obtain ⟨cs', h1, h2⟩ := hx i hi
      exact ⟨cs', h1, hQ _ _ _ h2⟩)
    have hlen : ((List.range len).map fun i => (V i).toArray).length = len := by simp
    refine ⟨(List.range len).map fun i => (V i).toArray, ⟨some a, m, by rw [hlen], by rw [hlen]; exact hl, hm, fun hp => ?_⟩, ?_, ?_⟩
    · rw [hlen] at hp
      obtain ⟨_, hsz, hat⟩ := World.cells?_some (hV 0 (by omega)).1
      have h00 := hat 0 h0
      obtain ⟨b, off, spot⟩ := a
      have hcell : ∃ u, w.cell? ((⟨b, off, spot⟩ : Addr).add 0) = some u := ⟨(V 0)[0]'(by omega), by have := h00; simp only [Nat.zero_mul] at this; rw [show ((⟨b, off, spot⟩ : Addr).add 0).add 0 = (⟨b, off, spot⟩ : Addr).add 0 from by simp [Addr.add]] at this; rw [this]; exact List.getElem?_eq_getElem _⟩
      obtain ⟨u, hu⟩ := hcell
      have hspot : spot = none := by simpa [Addr.add] using World.cell?_spot hu
      subst hspot
      refine ⟨b, off, rfl, ?_, fun j hj i hi => ?_⟩
      · have := World.block_lt_of_cell? w _ hu
        simpa [Addr.add] using this
      · rw [hlen] at hj
        obtain ⟨_, hsz, hat⟩ := World.cells?_some (hV j (by omega)).1
        have := hat i hi
        rw [Go.WideShapes.add_plain, Go.WideShapes.add_plain] at this
        rw [this]
        simp
    · refine Nat.le_trans ?_ hb
      refine Nat.le_trans ?_ (bulk_len _)
      simp
    · intro c hc
      obtain ⟨i, hi, rfl⟩ := List.mem_map.1 hc
      have hi' : i < len := List.mem_range.1 hi
      obtain ⟨_, hsz, _⟩ := World.cells?_some (hV i (by omega)).1
      exact ⟨⟨_, Nat.le_trans (bulk_mem (List.mem_map.2 ⟨i, hi, rfl⟩)) hb, (hV i (by omega)).2⟩, by simpa using hsz⟩
theorem list_ofB {α : Type} {f : α → Array Value} {Q : α → Prop} : ∀ L : List (Array Value), (∀ c ∈ L, ∃ o, c.toList = (f o).toList ∧ Q o) → ∃ As : List α, L = As.map f ∧ ∀ a ∈ As, Q a := list_of
set_option maxRecDepth 100000 in
theorem open_origsB {v : Value} {d : DataW H} {p : List MemPlace} {r : Reach} {b0 : Nat} (hval : Value.okWide Tryz.prog w r b0 32 v) (hd : DataW.Trod enc Tryz.prog w 0 (fun _ => true) held 32 v d p) :
    ∃ As : List Gl.Origin, Origs w v As ∧ (∀ a ∈ As, OriginFits a) ∧ As.length ≤ Rows.uptoBulk d := by
  obtain ⟨fuel, h⟩ := hd
  obtain ⟨A, n, c, rfl⟩ := okWide_slice Tryz.underlying32 hval
  obtain ⟨L, hL, hl, hQ⟩ := open_slotsB (Q := fun cs _ => ∃ o : Gl.Origin, cs = (ocells o).toList ∧ OriginFits o) Tryz.underlying32 (show (Tryz.prog).cellsOf 31 = 7 by kernel_rfl) (by decide) (fun _ _ _ h => open_origin_cells h) h
  obtain ⟨As, rfl, hA⟩ := list_of L (fun c hc => by obtain ⟨⟨k, _, h⟩, _⟩ := hQ c hc; exact h)
  exact ⟨As, hL, hA, by simpa using hl⟩
set_option maxRecDepth 100000 in
/-- An embedder policy, read as data: four cells. -/
theorem open_embedder_cells {fuel : Nat} {cs : List Value} {x : DataW H × List MemPlace} (h : DataW.trod enc Tryz.prog w base spare held fuel 24 cs = some x) :
    ∃ (ev er : Int) (et eu : List UInt8), cs = [.int .i64 ev, (Value.string ⟨(et).toArray⟩), .int .i64 er, (Value.string ⟨(eu).toArray⟩)] := by
  obtain ⟨xs, n, _, _, hl, hlen, hf⟩ := DataW.trod_struct Tryz.underlying24 h
  rw [show (Tryz.prog).cellsOf 24 = 4 by kernel_rfl] at hl
  match cs, hl with
  | [c0, c1, c2, c3], _ =>
    have f0 := hf 0 _ rfl
    have f1 := hf 1 _ rfl
    have f2 := hf 2 _ rfl
    have f3 := hf 3 _ rfl
    simp only [show (Tryz.prog).cellsOf 9 = 1 by kernel_rfl, show (Tryz.prog).cellsOf 3 = 1 by kernel_rfl, List.getElem_toArray, List.getElem_cons_zero, List.getElem_cons_succ, List.drop_zero, List.drop_succ_cons, List.take_succ_cons, List.take_zero] at f0 f1 f2 f3
    have g : ∀ i : Nat, i < 4 → ∃ y, xs[i]? = some y := fun i hi => ⟨xs[i]'(by rw [hlen]; exact hi), List.getElem?_eq_getElem _⟩
    obtain ⟨y0, e0⟩ := g 0 (by decide)
    obtain ⟨y1, e1⟩ := g 1 (by decide)
    obtain ⟨y2, e2⟩ := g 2 (by decide)
    obtain ⟨y3, e3⟩ := g 3 (by decide)
    obtain ⟨k0, h0, _⟩ := trod_i64 Tryz.underlying3 (f0.trans e0)
    obtain ⟨l1, h1, _⟩ := trod_str Tryz.underlying9 (f1.trans e1)
    obtain ⟨k2, h2, _⟩ := trod_i64 Tryz.underlying3 (f2.trans e2)
    obtain ⟨l3, h3, _⟩ := trod_str Tryz.underlying9 (f3.trans e3)
    simp only [List.cons.injEq, and_true] at h0 h1 h2 h3
    subst h0 h1 h2 h3
    exact ⟨k0, k2, l1, l3, rfl⟩
set_option maxRecDepth 100000 in
theorem open_embedder {v : Value} {d : DataW H} {p : List MemPlace} {r : Reach} {b0 : Nat} (hval : Value.okWide Tryz.prog w r b0 24 v) (hd : DataW.Trod enc Tryz.prog w base spare held 24 v d p) :
    ∃ (ev er : Int) (et eu : List UInt8), v = .agg #[.int .i64 ev, (Value.string ⟨(et).toArray⟩), .int .i64 er, (Value.string ⟨(eu).toArray⟩)] := by
  unfold Value.okWide at hval
  rw [Tryz.underlying24] at hval
  obtain ⟨cs, rfl, hsz, _⟩ := hval
  obtain ⟨fuel, h⟩ := hd
  obtain ⟨cs⟩ := cs
  obtain ⟨ev, er, et, eu, rfl⟩ := open_embedder_cells (show DataW.trod enc Tryz.prog w base spare held fuel 24 cs = _ from h)
  exact ⟨ev, er, et, eu, rfl⟩
set_option maxRecDepth 100000 in
/-- A policy with its two rows of texts. -/
theorem open_policy_cellsB {fuel : Nat} {cs : List Value} {x : DataW H × List MemPlace} (h : DataW.trod enc Tryz.prog w 0 (fun _ => true) held fuel 45 cs = some x) :
    ∃ p : Gl.Pol, cs = (pcells p).toList ∧ Strs w w.heap.size p.va p.anc ∧ Strs w w.heap.size p.vb p.boxes ∧ p.anc.length ≤ Rows.uptoBulk x.1 ∧ p.boxes.length ≤ Rows.uptoBulk x.1 ∧ (∀ s ∈ p.anc, s.length ≤ Rows.uptoBulk x.1) ∧ ∀ s ∈ p.boxes, s.length ≤ Rows.uptoBulk x.1 := by
  obtain ⟨xs, n, _, hx, hl, hlen, hf⟩ := DataW.trod_struct Tryz.underlying45 h
  rw [show (Tryz.prog).cellsOf 45 = 4 by kernel_rfl] at hl
  match cs, hl with
  | [c0, c1, c2, c3], _ =>
    have f0 := hf 0 _ rfl
    have f1 := hf 1 _ rfl
    have f2 := hf 2 _ rfl
    have f3 := hf 3 _ rfl
    simp only [show (Tryz.prog).cellsOf 43 = 1 by kernel_rfl, show (Tryz.prog).cellsOf 4 = 1 by kernel_rfl, List.getElem_toArray, List.getElem_cons_zero, List.getElem_cons_succ, List.drop_zero, List.drop_succ_cons, List.take_succ_cons, List.take_zero] at f0 f1 f2 f3
    have hlen4 : xs.length = 4 := hlen
    match xs, hlen4 with
    | [y0, y1, y2, y3], _ =>
      obtain ⟨b0, h0⟩ := trod_boo Tryz.underlying4 f0
      obtain ⟨L, hL, hL1, hL2⟩ := texts_of_trodB f1
      obtain ⟨b2, h2⟩ := trod_boo Tryz.underlying4 f2
      obtain ⟨M, hM, hM1, hM2⟩ := texts_of_trodB f3
      simp only [List.cons.injEq, and_true] at h0 h2
      subst h0 h2
      have hd : x.1 = .agg [y0.1, y1.1, y2.1, y3.1] := congrArg Prod.fst hx
      have k1 : Rows.uptoBulk y1.1 ≤ Rows.uptoBulk x.1 := by rw [hd]; exact bulk_part (by simp)
      have k3 : Rows.uptoBulk y3.1 ≤ Rows.uptoBulk x.1 := by rw [hd]; exact bulk_part (by simp)
      exact ⟨⟨b0, c1, b2, c3, L, M⟩, rfl, hL, hM, Nat.le_trans hL1 k1, Nat.le_trans hM1 k3, fun s hs => Nat.le_trans (hL2 s hs) k1, fun s hs => Nat.le_trans (hM2 s hs) k3⟩
set_option maxRecDepth 100000 in
theorem pols_of_trodB {fuel : Nat} {v : Value} {x : DataW H × List MemPlace} (h : DataW.trod enc Tryz.prog w 0 (fun _ => true) held fuel 22 [v] = some x) :
    ∃ Ps : List Gl.Pol, Pols w v Ps ∧ Ps.length ≤ Rows.uptoBulk x.1 ∧ ∀ p ∈ Ps, p.anc.length ≤ Rows.uptoBulk x.1 ∧ p.boxes.length ≤ Rows.uptoBulk x.1 ∧ (∀ s ∈ p.anc, s.length ≤ Rows.uptoBulk x.1) ∧ ∀ s ∈ p.boxes, s.length ≤ Rows.uptoBulk x.1 := by
  obtain ⟨L, hL, hl, hQ⟩ := open_slotsB (Q := fun cs b => ∃ p : Gl.Pol, cs = (pcells p).toList ∧ Strs w w.heap.size p.va p.anc ∧ Strs w w.heap.size p.vb p.boxes ∧ p.anc.length ≤ b ∧ p.boxes.length ≤ b ∧ (∀ s ∈ p.anc, s.length ≤ b) ∧ ∀ s ∈ p.boxes, s.length ≤ b) Tryz.underlying22 (show (Tryz.prog).cellsOf 45 = 4 by kernel_rfl) (by decide) (fun _ _ _ h => open_policy_cellsB h) h
  obtain ⟨Ps, rfl, hA⟩ := list_of (f := pcells) (Q := fun p => Strs w w.heap.size p.va p.anc ∧ Strs w w.heap.size p.vb p.boxes ∧ p.anc.length ≤ Rows.uptoBulk x.1 ∧ p.boxes.length ≤ Rows.uptoBulk x.1 ∧ (∀ s ∈ p.anc, s.length ≤ Rows.uptoBulk x.1) ∧ ∀ s ∈ p.boxes, s.length ≤ Rows.uptoBulk x.1) L (fun c hc => by
    obtain ⟨⟨k, hk, p, h1, h2, h3, h4, h5, h6, h7⟩, _⟩ := hQ c hc
    exact ⟨p, h1, h2, h3, by omega, by omega, fun s hs => Nat.le_trans (h6 s hs) hk, fun s hs => Nat.le_trans (h7 s hs) hk⟩)
  exact ⟨Ps, ⟨hL, fun p hp => ⟨(hA p hp).1, (hA p hp).2.1⟩⟩, by simpa using hl, fun p hp => (hA p hp).2.2⟩
set_option maxRecDepth 100000 in
theorem open_container {v : Value} {d : DataW H} {p : List MemPlace} {r : Reach} {b0 : Nat} (hval : Value.okWide Tryz.prog w r b0 26 v) (hd : DataW.Trod enc Tryz.prog w 0 (fun _ => true) held 26 v d p) :
    ∃ (vp : Value) (Ps : List Gl.Pol) (ev er : Int) (et eu : List UInt8), v = .agg #[vp, .int .i64 ev, (Value.string ⟨(et).toArray⟩), .int .i64 er, (Value.string ⟨(eu).toArray⟩)] ∧ Pols w vp Ps ∧ Ps.length ≤ Rows.uptoBulk d ∧ ∀ p ∈ Ps, p.anc.length ≤ Rows.uptoBulk d ∧ p.boxes.length ≤ Rows.uptoBulk d ∧ (∀ s ∈ p.anc, s.length ≤ Rows.uptoBulk d) ∧ ∀ s ∈ p.boxes, s.length ≤ Rows.uptoBulk d := by
  unfold Value.okWide at hval
  rw [Tryz.underlying26] at hval
  obtain ⟨cs, rfl, hsz, _⟩ := hval
  obtain ⟨fuel, h⟩ := hd
  obtain ⟨cs⟩ := cs
  obtain ⟨xs, n, _, hx, hl, hlen, hf⟩ := DataW.trod_struct Tryz.underlying26 h
  simp only [Value.cells] at hl hf
  rw [show (Tryz.prog).cellsOf 26 = 5 by kernel_rfl] at hl
  match cs, hl with
  | [c0, c1, c2, c3, c4], _ =>
    have f0 := hf 0 _ rfl
    have f1 := hf 1 _ rfl
    simp only [show (Tryz.prog).cellsOf 22 = 1 by kernel_rfl, show (Tryz.prog).cellsOf 24 = 4 by kernel_rfl, List.getElem_toArray, List.getElem_cons_zero, List.getElem_cons_succ, List.drop_zero, List.drop_succ_cons, List.take_succ_cons, List.take_zero] at f0 f1
    have hlen2 : xs.length = 2 := hlen
    match xs, hlen2 with
    | [y0, y1], _ =>
      obtain ⟨Ps, hP, h1, h2⟩ := pols_of_trodB f0
      obtain ⟨ev, er, et, eu, h3⟩ := open_embedder_cells f1
      simp only [List.cons.injEq, and_true] at h3
      obtain ⟨rfl, rfl, rfl, rfl⟩ := h3
      have hd : d = .agg [y0.1, y1.1] := congrArg Prod.fst hx
      have k0 : Rows.uptoBulk y0.1 ≤ Rows.uptoBulk d := by rw [hd]; exact bulk_part (by simp)
      exact ⟨c0, Ps, ev, er, et, eu, rfl, hP, Nat.le_trans h1 k0, fun p hp => by
        obtain ⟨a1, a2, a3, a4⟩ := h2 p hp
        exact ⟨Nat.le_trans a1 k0, Nat.le_trans a2 k0, fun s hs => Nat.le_trans (a3 s hs) k0, fun s hs => Nat.le_trans (a4 s hs) k0⟩⟩
end
end Go.Proofs.YtkfoogmncokjnaaGreatDoor
