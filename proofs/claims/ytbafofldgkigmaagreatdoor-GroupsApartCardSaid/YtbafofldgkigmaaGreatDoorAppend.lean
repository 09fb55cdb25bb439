/- 'append' onto a row of the call's own: of texts, of structs; the source nil or not. -/
import Derived.Test.YtbafofldgkigmaaGreatDoorSlots
import Derived.Maps.AppendAt
import Derived.Deep.AppendLies
namespace Go.Proofs.YtbafofldgkigmaaGreatDoor
open Go.RowKit
/-- The slice '.slice A m c' holds the cells xs, n an element; they lie below block B. -/
def Row (w : World) (B n : Nat) (A : Option Addr) (m : Nat) (xs : List Value) : Prop :=
  xs.length = m * n ∧ (0 < m → ∃ b o, A = some ⟨b, o, none⟩ ∧ b < B ∧ ∀ j u, xs[j]? = some u → w.cell? ⟨b, o + j, none⟩ = some u)
theorem Row.keep {w w' : World} {B n m : Nat} {A : Option Addr} {xs : List Value} (h : Row w B n A m xs) (hb : Below B w w') : Row w' B n A m xs :=
  ⟨h.1, fun h0 => by
    obtain ⟨b, o, e, hB, hc⟩ := h.2 h0
    exact ⟨b, o, e, hB, fun j u hu => (hb.cell (p := ⟨b, o + j, none⟩) hB).trans (hc j u hu)⟩⟩
theorem Blk.grown {w w' : World} {g : Nat} {t : TypeId} {cs : Array Value} {row : Option Nat} (h : Blk w g t cs) (hg : w.grownBy w' row) (hne : row ≠ some g) : Blk w' g t cs := (hg.block g h.lt (fun e => hne e.symm)).trans h
theorem addr_add (b o j : Nat) : (⟨b, o, none⟩ : Addr).add j = ⟨b, o + j, none⟩ := by unfold Addr.add; split <;> simp_all
section
variable {P : Program} (w : World)
theorem run_append_nil (base : Nat) (t ty e : TypeId) (i : TypeInfo) (size : Nat) (ht : P.underlying t = some (.slice e)) (hi : P.info? e = some i)
    (v : Value) (n : Nat) (xs : List Value) (hown : w.ownsRow base e size v n xs) (c : Nat) : (Builtin.append_ #[t, t] ty #[v, .slice none 0 c]).run P w = .ok v w := by
  rcases hown.2 with ⟨rfl, rfl⟩ | ⟨g, cap, cur, rfl, _, _, hnc, _⟩ <;> simp [Builtin.append_, run_underlying ht, sizeOf, typeInfo, Builtin.lenOf, Builtin.firstCells, storeCells, *]
theorem run_append_row (base : Nat) (t ty e : TypeId) (i : TypeInfo) (z : Value) (size bytes : Nat) (ht : P.underlying t = some (.slice e)) (hi : P.info? e = some i) (hz : i.zero = some z)
    (hsize : i.size = size) (hby : i.bytes = bytes) (hzs : z.cells.size = size) (hsz : 0 < size) (v : Value) (n : Nat) (xs : List Value) (hown : w.ownsRow base e size v n xs)
    (B : Nat) (A : Option Addr) (m c : Nat) (news : List Value) (hr : Row w B size A m news) (h1 : ∀ u ∈ news, u.oneCell' = true) (h63 : n + m ≤ maxLen) (hbytes : (n + m) * bytes ≤ 140737488355328) (hbase : base ≤ w.heap.size) :
    ∃ v' w', (Builtin.append_ #[t, t] ty #[v, .slice A m c]).run P w = .ok v' w' ∧ w'.ownsRow base e size v' (n + m) (xs ++ news) ∧ w.grownBy w' v.ownBlock := by
  by_cases h0 : 0 < m
  · obtain ⟨b, o, rfl, _, hc⟩ := hr.2 h0
    obtain ⟨v', w', a, b, c, _⟩ := run_append_own_at (P := P) w base t ty e i z size bytes ht hi hz hsize hby hzs hsz v n xs hown ⟨b, o, none⟩ m c news hr.1 (fun j u hu => by rw [addr_add]; exact hc j u hu) h1 h63 hbytes hbase
    exact ⟨v', w', a, b, c⟩
  · obtain rfl : m = 0 := by omega
    obtain rfl : news = [] := List.eq_nil_of_length_eq_zero (by simpa using hr.1)
    cases A with
    | none => exact ⟨v, w, run_append_nil w base t ty e i size ht hi v n xs hown c, by simpa using hown, World.grownBy.refl w _⟩
    | some a =>
      obtain ⟨v', w', a, b, c, _⟩ := run_append_own_at (P := P) w base t ty e i z size bytes ht hi hz hsize hby hzs hsz v n xs hown a 0 c [] (by simp) (fun j u hu => by simp at hu) h1 h63 hbytes hbase
      exact ⟨v', w', a, b, c⟩
theorem wp_append_row {o : Oper} {a : Act} {K : Act → World → Prop} {Q : Exit → Act → World → Prop} (s x : Operand) (t : TypeId) (ho : o.op = .call { callee := .builtin .append, args := #[s, x], argTypes := #[t, t] })
    (base : Nat) (e : TypeId) (i : TypeInfo) (z : Value) (size bytes : Nat) (ht : P.underlying t = some (.slice e)) (hi : P.info? e = some i) (hz : i.zero = some z)
    (hsize : i.size = size) (hby : i.bytes = bytes) (hzs : z.cells.size = size) (hsz : 0 < size) (v : Value) (n : Nat) (xs : List Value) (hs : a.eval s = v) (hown : w.ownsRow base e size v n xs)
    (B : Nat) (A : Option Addr) (m c : Nat) (news : List Value) (hx : a.eval x = .slice A m c) (hr : Row w B size A m news) (h1 : ∀ u ∈ news, u.oneCell' = true) (h63 : n + m ≤ maxLen) (hbytes : (n + m) * bytes ≤ 140737488355328) (hbase : base ≤ w.heap.size)
    (h : ∀ v' w', w'.ownsRow base e size v' (n + m) (xs ++ news) → Below base w w' → w.grownBy w' v.ownBlock → K (a.put o.dst v') w') : o.wp P a w K Q := by
  obtain ⟨v', w', hrun, h2, h3⟩ := run_append_row (P := P) w base t o.type e i z size bytes ht hi hz hsize hby hzs hsz v n xs hown B A m c news hr h1 h63 hbytes hbase
  unfold Oper.wp execOp
  simp only [ho, resolve, invoke, builtin, Sem.run_bind, Sem.run_pure, Result.andThen_ok, List.map_toArray, List.map_cons, List.map_nil, hs, hx, hrun]
  exact h v' w' h2 ((Below.refl base w).grown h3 hbase (fun k hk => (World.ownsRow.lt hown k hk).1)) h3
end
/-- A row of structs that the call itself made: n cells an element. -/
def OwnS (w : World) (B : Nat) (t : TypeId) (n : Nat) (v : Value) (L : List (Array Value)) : Prop := w.ownsRow B t n v L.length (L.flatMap (·.toList)) ∧ ∀ c ∈ L, c.size = n
theorem flat_get {n : Nat} : ∀ (L : List (Array Value)), (∀ c ∈ L, c.size = n) → ∀ j, (h : j < L.length) → ∀ i, i < n → (L.flatMap (·.toList))[j * n + i]? = (L[j])[i]? := by
  intro L
  induction L with
  | nil => intro _ j h; simp at h
  | cons c r ih =>
    intro hs j h i hi
    have hc : c.toList.length = n := by have := hs c (by simp); simpa using this
    rw [List.flatMap_cons]
    cases j with
    | zero =>
      rw [Nat.zero_mul, Nat.zero_add, List.getElem?_append_left (by omega)]
      simp
    | succ j =>
      rw [List.getElem?_append_right (by rw [hc, Nat.succ_mul]; omega), hc, show (j + 1) * n + i - n = j * n + i by rw [Nat.succ_mul]; omega]
      exact ih (fun c hc => hs c (by simp [hc])) j (by simpa using h) i hi
theorem flat_len {n : Nat} : ∀ (L : List (Array Value)), (∀ c ∈ L, c.size = n) → (L.flatMap (·.toList)).length = L.length * n := by
  intro L
  induction L with
  | nil => intro _; simp
  | cons c r ih =>
    intro hs
    rw [List.flatMap_cons, List.length_append, ih (fun c hc => hs c (by simp [hc])), List.length_cons, Nat.succ_mul]
    have : c.toList.length = n := by have := hs c (by simp); simpa using this
    omega
theorem Slots.row {w : World} {B n : Nat} {A : Option Addr} {m c : Nat} {L : List (Array Value)} (h : Slots w B (.slice A m c) n L) (hs : ∀ c ∈ L, c.size = n) : m = L.length ∧ Row w B n A m (L.flatMap (·.toList)) := by
  obtain ⟨A', c', e, _, _, h3⟩ := h
  injection e with e1 e2 e3
  subst e1 e2
  refine ⟨rfl, flat_len L hs, fun h0 => ?_⟩
  obtain ⟨b, o, hA, hB, hc⟩ := h3 h0
  refine ⟨b, o, hA, hB, fun j u hu => ?_⟩
  have hl := flat_len L hs
  have hj : j < L.length * n := by rw [← hl]; exact (List.getElem?_eq_some_iff.1 hu).1
  have hn : 0 < n := by rcases Nat.eq_zero_or_pos n with h | h; subst h; simp at hj; exact h
  have h1 : j / n < L.length := (Nat.div_lt_iff_lt_mul hn).2 hj
  have h2 := hc (j / n) h1 (j % n) (Nat.mod_lt _ hn)
  have h4 := flat_get L hs (j / n) h1 (j % n) (Nat.mod_lt _ hn)
  rw [show j / n * n + j % n = j by rw [Nat.mul_comm]; exact Nat.div_add_mod j n] at h4
  rw [Nat.add_assoc, show j / n * n + j % n = j by rw [Nat.mul_comm]; exact Nat.div_add_mod j n] at h2
  rw [h2, ← h4, hu]
theorem OwnS.slots {w : World} {B n : Nat} {t : TypeId} {v : Value} {L : List (Array Value)} (h : OwnS w B t n v L) : Slots w w.heap.size v n L := by
  obtain ⟨ho, hs⟩ := h
  have hc := ho
  unfold World.ownsRow at ho
  obtain ⟨hl, ho⟩ := ho
  rcases ho with ⟨rfl, h0⟩ | ⟨g, cap, cur, rfl, hB, hh, h1, h2, h3, h4⟩
  · exact ⟨none, 0, by rw [h0], by omega, by unfold maxLen; omega, fun h => by omega⟩
  · refine ⟨_, cap, rfl, h1, h2, fun h0 => ⟨g, 0, rfl, (Array.getElem?_eq_some_iff.1 hh).1, fun j hj i hi => ?_⟩⟩
    have hg := flat_get L hs j hj i hi
    cases hu : (L[j])[i]? with
    | none => rw [Array.getElem?_eq_none_iff, hs _ (List.getElem_mem hj)] at hu; omega
    | some u =>
      rw [hu] at hg
      have := World.ownsRow.cells hc (g := g) rfl (j * n + i) u hg
      rw [addr_add, ← Nat.add_assoc] at this
      exact this
theorem OwnS.nil (w : World) (B : Nat) (t : TypeId) (n : Nat) : OwnS w B t n (.slice none 0 0) [] := ⟨World.ownsRow_nil w B _ n, by simp⟩
theorem OwnS.of_blk {w : World} {B g n m : Nat} {t : TypeId} {cs : Array Value} {L : List (Array Value)} (h : Blk w g t cs) (hB : B ≤ g) (hL : ∀ c ∈ L, c.size = n) (hcs : cs.toList = L.flatMap (·.toList)) (hm : m = L.length) (hlm : m ≤ maxLen) : OwnS w B t n (.slice (some ⟨g, 0, none⟩) m m) L := by
  subst hm
  have hl := flat_len L hL
  have hsz : cs.size = L.length * n := by rw [← hl, ← hcs]; simp
  exact ⟨⟨hl, Or.inr ⟨g, L.length, cs, rfl, hB, h, Nat.le_refl _, hlm, hsz, by rw [hcs, ← hl, List.take_length]⟩⟩, hL⟩
theorem OwnS.keep {w w' : World} {B B' n : Nat} {t : TypeId} {v : Value} {L : List (Array Value)} (h : OwnS w B t n v L) (hb : Below B' w w') (hB : w.heap.size ≤ B') : OwnS w' B t n v L :=
  ⟨World.ownsRow.kept h.1 (row := none) ⟨hb.os, hb.tape, hb.output, hb.size, fun k hk _ => hb.block k (by omega)⟩ (by cases v.ownBlock <;> simp), h.2⟩
theorem OwnS.mono {w : World} {B B' n : Nat} {t : TypeId} {v : Value} {L : List (Array Value)} (h : OwnS w B t n v L) (hB : B' ≤ B) : OwnS w B' t n v L := by
  obtain ⟨⟨h1, h2⟩, h3⟩ := h
  refine ⟨⟨h1, ?_⟩, h3⟩
  rcases h2 with h2 | ⟨g, cap, cur, hv, hg, r⟩
  · exact Or.inl h2
  · exact Or.inr ⟨g, cap, cur, hv, by omega, r⟩
theorem OwnS.form {w : World} {B n : Nat} {t : TypeId} {v : Value} {L : List (Array Value)} (h : OwnS w B t n v L) : ∃ A c, v = .slice A L.length c := by
  obtain ⟨A, c, hv, _⟩ := h.slots
  exact ⟨A, c, hv⟩
theorem OwnS.set {w : World} {B n : Nat} {t : TypeId} {v : Value} {L : List (Array Value)} (h : OwnS w B t n v L) {p : Addr} (hp : p.block < B) (u : Value) : OwnS (w.setCell p u) B t n v L := by
  refine ⟨World.ownsRow.kept h.1 (row := some p.block) ⟨rfl, rfl, rfl, by simp, fun k _ hne => Below.heap_setCell _ _ _ _ (fun e => hne (by rw [e]))⟩ ?_, h.2⟩
  right
  intro e
  have := (World.ownsRow.lt h.1 _ e).1
  omega
/-- One cell an element and all cells of it one: what 'append' asks of cells. -/
def Ones (L : List (Array Value)) : Prop := ∀ c ∈ L, ∀ u ∈ c.toList, u.oneCell' = true
section
variable {P : Program} {w : World}
theorem wp_cat {o : Oper} {a : Act} {K : Act → World → Prop} {Q : Exit → Act → World → Prop} (s x : Operand) (t : TypeId) (ho : o.op = .call { callee := .builtin .append, args := #[s, x], argTypes := #[t, t] })
    (base : Nat) (e : TypeId) (i : TypeInfo) (z : Value) (size bytes : Nat) (ht : P.underlying t = some (.slice e)) (hi : P.info? e = some i) (hz : i.zero = some z) (hsize : i.size = size) (hby : i.bytes = bytes) (hzs : z.cells.size = size) (hsz : 0 < size)
    (v : Value) (L : List (Array Value)) (hs : a.eval s = v) (hown : OwnS w base e size v L) (B : Nat) (u : Value) (M : List (Array Value)) (hx : a.eval x = u) (hr : Slots w B u size M) (hM : ∀ c ∈ M, c.size = size) (h1 : Ones M)
    (h63 : L.length + M.length ≤ maxLen) (hbytes : (L.length + M.length) * bytes ≤ 140737488355328) (hbase : base ≤ w.heap.size)
    (h : ∀ v' w', OwnS w' base e size v' (L ++ M) → Below base w w' → w.grownBy w' v.ownBlock → K (a.put o.dst v') w') : o.wp P a w K Q := by
  obtain ⟨A, c, rfl, _⟩ := id hr
  obtain ⟨_, hrow⟩ := hr.row hM
  refine wp_append_row w s x t ho base e i z size bytes ht hi hz hsize hby hzs hsz v L.length _ hs hown.1 B A M.length c _ hx hrow (fun y hy => ?_) h63 hbytes hbase (fun v' w' h2 h3 h4 => h v' w' ⟨?_, ?_⟩ h3 h4)
  · obtain ⟨cc, hc1, hc2⟩ := List.mem_flatMap.1 hy
    exact h1 cc hc1 y hc2
  · rw [List.length_append, List.flatMap_append]; exact h2
  · intro cc hc
    rcases List.mem_append.1 hc with hc | hc
    · exact hown.2 cc hc
    · exact hM cc hc
theorem wpList_cat {ops : Array Oper} {rest : List Oper} {o : Oper} {a : Act} {Q : Exit → Act → World → Prop} (hgd : o.guard = none) (s x : Operand) (t : TypeId) (ho : o.op = .call { callee := .builtin .append, args := #[s, x], argTypes := #[t, t] })
    (base : Nat) (e : TypeId) (i : TypeInfo) (z : Value) (size bytes : Nat) (ht : P.underlying t = some (.slice e)) (hi : P.info? e = some i) (hz : i.zero = some z) (hsize : i.size = size) (hby : i.bytes = bytes) (hzs : z.cells.size = size) (hsz : 0 < size)
    (v : Value) (L : List (Array Value)) (hs : a.eval s = v) (hown : OwnS w base e size v L) (B : Nat) (u : Value) (M : List (Array Value)) (hx : a.eval x = u) (hr : Slots w B u size M) (hM : ∀ c ∈ M, c.size = size) (h1 : Ones M)
    (h63 : L.length + M.length ≤ maxLen) (hbytes : (L.length + M.length) * bytes ≤ 140737488355328) (hbase : base ≤ w.heap.size)
    (h : ∀ v' w', OwnS w' base e size v' (L ++ M) → Below base w w' → w.grownBy w' v.ownBlock → wpList P ops Q rest (a.put o.dst v') w') : wpList P ops Q (o :: rest) a w :=
  wpList_plain hgd fun _ hK => wp_cat s x t ho base e i z size bytes ht hi hz hsize hby hzs hsz v L hs hown B u M hx hr hM h1 h63 hbytes hbase fun v' w' h2 h3 h4 => hK _ _ (h v' w' h2 h3 h4)
theorem step_cat {ops : Array Oper} {o : Oper} {a : Act} {K : Act → World → Prop} {Q : Exit → Act → World → Prop} {E : Prop} (hgd : o.guard = none) (s x : Operand) (t : TypeId) (ho : o.op = .call { callee := .builtin .append, args := #[s, x], argTypes := #[t, t] })
    (base : Nat) (e : TypeId) (i : TypeInfo) (z : Value) (size bytes : Nat) (ht : P.underlying t = some (.slice e)) (hi : P.info? e = some i) (hz : i.zero = some z) (hsize : i.size = size) (hby : i.bytes = bytes) (hzs : z.cells.size = size) (hsz : 0 < size)
    (v : Value) (L : List (Array Value)) (hs : a.eval s = v) (hown : OwnS w base e size v L) (B : Nat) (u : Value) (M : List (Array Value)) (hx : a.eval x = u) (hr : Slots w B u size M) (hM : ∀ c ∈ M, c.size = size) (h1 : Ones M)
    (h63 : L.length + M.length ≤ maxLen) (hbytes : (L.length + M.length) * bytes ≤ 140737488355328) (hbase : base ≤ w.heap.size)
    (h : ∀ v' w', OwnS w' base e size v' (L ++ M) → Below base w w' → w.grownBy w' v.ownBlock → K (a.put o.dst v') w') : if Region.wanted o (yielded ops a.tmps) = true then Oper.wp P o a w K Q else E := by
  rw [if_pos (by simp [Region.wanted, hgd])]
  exact wp_cat s x t ho base e i z size bytes ht hi hz hsize hby hzs hsz v L hs hown B u M hx hr hM h1 h63 hbytes hbase h
end
theorem Strs.slots {w : World} {B : Nat} {v : Value} {L : List (List UInt8)} (h : Strs w B v L) : Slots w B v 1 (L.map fun x => #[(Value.string ⟨(x).toArray⟩)]) := by
  obtain ⟨A, c, rfl, h1, h2, h3⟩ := h
  refine ⟨A, c, by simp, by simpa using h1, h2, fun h0 => ?_⟩
  obtain ⟨b, o, hA, hB, hc⟩ := h3 (by simpa using h0)
  refine ⟨b, o, hA, hB, fun j hj i hi => ?_⟩
  obtain rfl : i = 0 := by omega
  have := hc j (by simpa using hj)
  simpa using this
theorem Slots.strs {w : World} {B : Nat} {v : Value} {L : List (List UInt8)} (h : Slots w B v 1 (L.map fun x => #[(Value.string ⟨(x).toArray⟩)])) : Strs w B v L := by
  obtain ⟨A, c, rfl, h1, h2, h3⟩ := h
  refine ⟨A, c, by simp, by simpa using h1, h2, fun h0 => ?_⟩
  obtain ⟨b, o, hA, hB, hc⟩ := h3 (by simpa using h0)
  refine ⟨b, o, hA, hB, fun j hj => ?_⟩
  have := hc j (by simpa using hj) 0 (by decide)
  simpa using this
end Go.Proofs.YtbafofldgkigmaaGreatDoor
