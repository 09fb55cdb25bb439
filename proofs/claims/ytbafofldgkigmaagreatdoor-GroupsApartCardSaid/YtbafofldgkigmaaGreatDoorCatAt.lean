/- 'append' onto a row of the call's own, and where the new slice lies. -/
import Derived.Test.YtbafofldgkigmaaGreatDoorOrigRow
namespace Go.Proofs.YtbafofldgkigmaaGreatDoor
open Go.RowKit
theorem OwnS.grown {w w' : World} {B n : Nat} {t : TypeId} {v : Value} {L : List (Array Value)} {row : Option Nat} (h : OwnS w B t n v L) (hg : w.grownBy w' row) (hne : v.ownBlock = none ∨ v.ownBlock ≠ row) : OwnS w' B t n v L := ⟨World.ownsRow.kept h.1 hg hne, h.2⟩
section
variable {P : Program} {w : World}
theorem run_append_at (base : Nat) (t ty e : TypeId) (i : TypeInfo) (z : Value) (size bytes : Nat) (ht : P.underlying t = some (.slice e)) (hi : P.info? e = some i) (hz : i.zero = some z)
    (hsize : i.size = size) (hby : i.bytes = bytes) (hzs : z.cells.size = size) (hsz : 0 < size) (v : Value) (n : Nat) (xs : List Value) (hown : w.ownsRow base e size v n xs)
    (B : Nat) (A : Option Addr) (m c : Nat) (news : List Value) (hr : Row w B size A m news) (h1 : ∀ u ∈ news, u.oneCell' = true) (h63 : n + m ≤ maxLen) (hbytes : (n + m) * bytes ≤ 140737488355328) (hbase : base ≤ w.heap.size) :
    ∃ v' w', (Builtin.append_ #[t, t] ty #[v, .slice A m c]).run P w = .ok v' w' ∧ w'.ownsRow base e size v' (n + m) (xs ++ news) ∧ w.grownBy w' v.ownBlock ∧ (v'.ownBlock = v.ownBlock ∨ v'.ownBlock = some w.heap.size) := by
  by_cases h0 : 0 < m
  · obtain ⟨b, o, rfl, _, hc⟩ := hr.2 h0
    obtain ⟨v', w', a, b, c, d⟩ := run_append_own_at (P := P) w base t ty e i z size bytes ht hi hz hsize hby hzs hsz v n xs hown ⟨b, o, none⟩ m c news hr.1 (fun j u hu => by rw [addr_add]; exact hc j u hu) h1 h63 hbytes hbase
    exact ⟨v', w', a, b, c, d.2⟩
  · obtain rfl : m = 0 := by omega
    obtain rfl : news = [] := List.eq_nil_of_length_eq_zero (by simpa using hr.1)
    cases A with
    | none => exact ⟨v, w, run_append_nil w base t ty e i size ht hi v n xs hown c, by simpa using hown, World.grownBy.refl w _, Or.inl rfl⟩
    | some a =>
      obtain ⟨v', w', a, b, c, d⟩ := run_append_own_at (P := P) w base t ty e i z size bytes ht hi hz hsize hby hzs hsz v n xs hown a 0 c [] (by simp) (fun j u hu => by simp at hu) h1 h63 hbytes hbase
      exact ⟨v', w', a, b, c, d.2⟩
theorem wp_cat_at {o : Oper} {a : Act} {K : Act → World → Prop} {Q : Exit → Act → World → Prop} (s x : Operand) (t : TypeId) (ho : o.op = .call { callee := .builtin .append, args := #[s, x], argTypes := #[t, t] })
    (base : Nat) (e : TypeId) (i : TypeInfo) (z : Value) (size bytes : Nat) (ht : P.underlying t = some (.slice e)) (hi : P.info? e = some i) (hz : i.zero = some z) (hsize : i.size = size) (hby : i.bytes = bytes) (hzs : z.cells.size = size) (hsz : 0 < size)
    (v : Value) (L : List (Array Value)) (hs : a.eval s = v) (hown : OwnS w base e size v L) (B : Nat) (u : Value) (M : List (Array Value)) (hx : a.eval x = u) (hr : Slots w B u size M) (hM : ∀ c ∈ M, c.size = size) (h1 : Ones M)
    (h63 : L.length + M.length ≤ maxLen) (hbytes : (L.length + M.length) * bytes ≤ 140737488355328) (hbase : base ≤ w.heap.size)
    (h : ∀ v' w', OwnS w' base e size v' (L ++ M) → Below base w w' → w.grownBy w' v.ownBlock → (v'.ownBlock = v.ownBlock ∨ v'.ownBlock = some w.heap.size) → K (a.put o.dst v') w') : o.wp P a w K Q := by
  obtain ⟨A, c, rfl, _⟩ := id hr
  obtain ⟨_, hrow⟩ := hr.row hM
  have hones : ∀ y ∈ M.flatMap (·.toList), y.oneCell' = true := fun y hy => by
    obtain ⟨cc, hc1, hc2⟩ := List.mem_flatMap.1 hy
    exact h1 cc hc1 y hc2
  obtain ⟨v', w', hrun, h2, h3, h4⟩ := run_append_at (P := P) (w := w) base t o.type e i z size bytes ht hi hz hsize hby hzs hsz v L.length _ hown.1 B A M.length c _ hrow hones h63 hbytes hbase
  unfold Oper.wp execOp
  simp only [ho, resolve, invoke, builtin, Sem.run_bind, Sem.run_pure, Result.andThen_ok, List.map_toArray, List.map_cons, List.map_nil, hs, hx, hrun]
  refine h v' w' ⟨?_, ?_⟩ ((Below.refl base w).grown h3 hbase (fun k hk => (World.ownsRow.lt hown.1 k hk).1)) h3 h4
  · rw [List.length_append, List.flatMap_append]; exact h2
  · intro cc hc
    rcases List.mem_append.1 hc with hc | hc
    · exact hown.2 cc hc
    · exact hM cc hc
theorem step_cat_at {ops : Array Oper} {o : Oper} {a : Act} {K : Act → World → Prop} {Q : Exit → Act → World → Prop} {E : Prop} (hgd : o.guard = none) (s x : Operand) (t : TypeId) (ho : o.op = .call { callee := .builtin .append, args := #[s, x], argTypes := #[t, t] })
    (base : Nat) (e : TypeId) (i : TypeInfo) (z : Value) (size bytes : Nat) (ht : P.underlying t = some (.slice e)) (hi : P.info? e = some i) (hz : i.zero = some z) (hsize : i.size = size) (hby : i.bytes = bytes) (hzs : z.cells.size = size) (hsz : 0 < size)
    (v : Value) (L : List (Array Value)) (hs : a.eval s = v) (hown : OwnS w base e size v L) (B : Nat) (u : Value) (M : List (Array Value)) (hx : a.eval x = u) (hr : Slots w B u size M) (hM : ∀ c ∈ M, c.size = size) (h1 : Ones M)
    (h63 : L.length + M.length ≤ maxLen) (hbytes : (L.length + M.length) * bytes ≤ 140737488355328) (hbase : base ≤ w.heap.size)
    (h : ∀ v' w', OwnS w' base e size v' (L ++ M) → Below base w w' → w.grownBy w' v.ownBlock → (v'.ownBlock = v.ownBlock ∨ v'.ownBlock = some w.heap.size) → K (a.put o.dst v') w') : if Region.wanted o (yielded ops a.tmps) = true then Oper.wp P o a w K Q else E := by
  rw [if_pos (by simp [Region.wanted, hgd])]
  exact wp_cat_at s x t ho base e i z size bytes ht hi hz hsize hby hzs hsz v L hs hown B u M hx hr hM h1 h63 hbytes hbase h
end
end Go.Proofs.YtbafofldgkigmaaGreatDoor
