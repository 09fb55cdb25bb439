/- headers.Values, headers.Combined. -/
import Derived.Test.YtbafofldgkigmaaGreatDoorHeads
import Derived.RangeFuncBox
namespace Go.Proofs.YtbafofldgkigmaaGreatDoor
open Go.RowKit Go.Shelf
attribute [local go_sem] Oper.semAt_some
theorem owns_less {W : World} {b b2 : Nat} {e : TypeId} {size : Nat} {v : Value} {k : Nat} {xs : List Value} (h : W.ownsRow b e size v k xs) (hb : b2 ≤ b) : W.ownsRow b2 e size v k xs := by
  obtain ⟨h1, h2⟩ := h
  refine ⟨h1, ?_⟩
  rcases h2 with h2 | ⟨g, cap, cur, hv, hg, r⟩
  · exact Or.inl h2
  · exact Or.inr ⟨g, cap, cur, hv, by omega, r⟩
theorem Blk.newI (w : World) (a : Obj) (t : TypeId) (cs : Array Value) : Blk ((w.alloc a).alloc (Obj.cells cs t)) (w.heap.size + 1) t cs := by
  have := Blk.new (w.alloc a) t cs
  simpa [World.size_alloc] using this
theorem Blk.newII (w : World) (a b : Obj) (t : TypeId) (cs : Array Value) : Blk (((w.alloc a).alloc b).alloc (Obj.cells cs t)) (w.heap.size + 1 + 1) t cs := by
  have := Blk.new ((w.alloc a).alloc b) t cs
  simpa [World.size_alloc] using this
theorem owns_form {W : World} {b : Nat} {e : TypeId} {size : Nat} {v : Value} {k : Nat} {xs : List Value} (h : W.ownsRow b e size v k xs) : ∃ A c, v = .slice A k c := by
  rcases h.2 with ⟨rfl, h0⟩ | ⟨g, cap, cur, rfl, _⟩
  · exact ⟨none, 0, by rw [h0]⟩
  · exact ⟨_, _, rfl⟩
def vals (pre : List Val) : List Value := pre.map fun x => .string ⟨x.1.toArray⟩
def VI (w : World) (pre : List Val) (W : World) : Prop :=
  (∃ v, Boxed W w.heap.size 32 v ∧ W.ownsRow (w.heap.size + 3) 9 1 v pre.length (vals pre) ∧ True) ∧ Below w.heap.size w W ∧ w.heap.size + 3 ≤ W.heap.size
set_option maxRecDepth 100000 in
set_option maxHeartbeats 4000000 in
theorem headers_values (v : Value) (L : List Gl.Head) (nm : List UInt8) (w : World) (hv : Heads w v L) (hL : ∀ h ∈ L, HeadFit h) (hLl : L.length ≤ 1000000) (hnm : nm.length ≤ 281474976710656) :
    Calls Tryz.prog 30 #[v, (Value.string ⟨(nm).toArray⟩)] w (RetStrs w (Gl.values L nm)) := by
  have hcl : ∀ A c, v = .slice A L.length c → ∀ k, (h : k < L.length) → ∃ sb so, A = some ⟨sb, so, none⟩ ∧ sb < w.heap.size ∧ ∀ i, i < 2 → w.cell? ⟨sb, so + k * 2 + i, none⟩ = (hcells L[k])[i]? := fun A c e k h => by
    obtain ⟨b, o, c2, e2, hB, hx⟩ := hv.cells k h
    rw [e] at e2
    injection e2 with e3 e4 e5
    exact ⟨b, o, e3, hB, hx⟩
  obtain ⟨A, c, rfl⟩ := hv.form
  replace hcl := hcl A c rfl
  have hvl := values_len L nm
  replace hcl := Lib.hid hcl
  clear hv
  refine (callsIn_wide (n := 20)).1 ?_
  refine callsIn_of_wp_marks Tryz.func30 rfl trivial ?_ rfl
  simp only [Tryz.ntmps30, List.size_toArray, List.length_cons, List.length_nil, Nat.reduceAdd, Nat.reduceSub, Array.replicate_succ, Array.replicate_zero, List.push_toArray, List.append_toArray, List.nil_append, List.cons_append]
  gi_wp2_with (refine ⟨trivial, ?_⟩; gi_at_call 71; refine (callsIn_wide.2 (head_values A L.length c nm _)).mono ?_; rintro e w2 ⟨rfl, rfl⟩)
  have hBa : Blk (((w.alloc (Obj.cells #[Value.slice none 0 0] 32)).alloc (Obj.cells #[Value.slice A L.length c] 29)).alloc (Obj.cells #[(Value.string ⟨(nm).toArray⟩)] 9)) (w.heap.size + 1) 29 #[.slice A L.length c] := (Blk.newI _ _ _ _).alloc _
  have hBb : Blk (((w.alloc (Obj.cells #[Value.slice none 0 0] 32)).alloc (Obj.cells #[Value.slice A L.length c] 29)).alloc (Obj.cells #[(Value.string ⟨(nm).toArray⟩)] 9)) (w.heap.size + 1 + 1) 9 #[(Value.string ⟨(nm).toArray⟩)] := Blk.newII _ _ _ _ _
  have hbW : Below w.heap.size w (((w.alloc (Obj.cells #[Value.slice none 0 0] 32)).alloc (Obj.cells #[Value.slice A L.length c] 29)).alloc (Obj.cells #[(Value.string ⟨(nm).toArray⟩)] 9)) := bw_
  have h0 : VI w [] (((w.alloc (Obj.cells #[Value.slice none 0 0] 32)).alloc (Obj.cells #[Value.slice A L.length c] 29)).alloc (Obj.cells #[(Value.string ⟨(nm).toArray⟩)] 9)) :=
    ⟨⟨.slice none 0 0, ((Boxed.new w _ _).alloc _).alloc _, World.ownsRow_nil _ _ _ _, trivial⟩, hbW, by simp⟩
  have hsz : (((w.alloc (Obj.cells #[Value.slice none 0 0] 32)).alloc (Obj.cells #[Value.slice A L.length c] 29)).alloc (Obj.cells #[(Value.string ⟨(nm).toArray⟩)] 9)).heap.size = w.heap.size + 3 := by simp
  have hseq := values_stops 19 (by omega) (w.heap.size + 1) (w.heap.size + 1 + 1) w.heap.size A c L nm hnm hL (by omega) _ (by rw [hsz]; omega) hBa hBb (fun k h => by
    obtain ⟨sb, so, e, hs, hx⟩ := hcl.out k h
    exact ⟨sb, so, e, hs, fun i hi => (hbW.cell (p := ⟨sb, so + k * 2 + i, none⟩) hs).trans (hx i hi)⟩)
  generalize hW0 : (((w.alloc (Obj.cells #[Value.slice none 0 0] 32)).alloc (Obj.cells #[Value.slice A L.length c] 29)).alloc (Obj.cells #[(Value.string ⟨(nm).toArray⟩)] 9)) = W0 at *
  clear hW0 hBa hBb hbW hcl hL
  obtain ⟨i0, hi0, hz0, hz1, hz2⟩ := info_parts Tryz.infoStr
  refine wpIn_rangeFunc_ownF rfl (by omega) (gf := 98) (lb := #[.pointer (some ⟨w.heap.size + 1, 0, none⟩), .pointer (some ⟨w.heap.size + 1 + 1, 0, none⟩)]) rfl trivial (enters_of Tryz.func98 (by kernel_rfl) rfl) hseq (fun h k => h.trans k) (fun W l o o' hl h ho hw => VK.putObj (w := W0) (by omega) W l o o' hl h ho hw) (Below.refl _ _) (fun _ => rfl)
    (VI w) (fun _ _ _ => False) ?own ?ownx h0
    (fun x => { tmps := #[Value.slice A L.length c, (Value.string ⟨(nm).toArray⟩), undef, undef, Value.pointer (some ⟨w.heap.size, 0, none⟩), (Value.string ⟨(x.1).toArray⟩), Value.slice A L.length c, (Value.string ⟨(nm).toArray⟩), Value.func (Fn.func 98) #[] #[Value.pointer (some ⟨w.heap.size + 1, 0, none⟩), Value.pointer (some ⟨w.heap.size + 1 + 1, 0, none⟩)], (Value.string ⟨(x.1).toArray⟩), undef, undef, undef, undef, undef], defers := [] }) ?assign ?body ?done ?stop
  case own => exact OwnFrom.and (_root_.Go.Own.from (holdsRow_own (w.heap.size + 3) w.heap.size 32 9 1 (fun pre => pre.length) vals (fun _ _ => True)) _) (OwnFrom.and (ownFrom_below (Nat.le_refl _) (by omega)) (fun _ _ _ _ hs hg _ => Nat.le_trans hs hg.size))
  case ownx => exact fun c s A B row h => absurd h id
  case assign =>
    intro l x W K hK
    simp only [encVal]
    gi_wp2
    exact hK
  case body =>
    rintro l pre x W ⟨⟨v, hv, hrow, -⟩, hB, hW3⟩ hpre
    have hWz := hB.size
    have hc := hv.cell
    have hvf := hv.frozen
    clear h0 hseq
    gi_wp2_with (gi_at_builtin; refine wpListIn_append_own _ rfl (.tmp 10) (.tmp 12) 32 rfl (w.heap.size + 3) 9 i0 _ 1 16 Tryz.underlying32 hi0 hz0 hz1 hz2 rfl (by decide) v pre.length (vals pre) rfl (hrow.alloc _) ⟨W.heap.size, 0, none⟩ 1 1 [.string ⟨x.1.toArray⟩] rfl rfl (cell_one_new _ _ _) (by simp [Value.oneCell']) (by simp [maxLen]; omega) (by omega) (by simp; omega) ?_; intro v' w1 hown' hgrow _; obtain ⟨g', cap', rfl⟩ := ownsRow_succ hown'; obtain ⟨hv1, hv2, hr2, hk2, hb2⟩ := hv.appended (by decide) (owns_less hrow (by omega)) hWz (Nat.le_refl _) (owns_less hown' (by omega)) hgrow; have hc1 := hv1.cell; have hf1 := hv1.frozen)
    have hr3 := hown'.kept (grownBy_setCell' w1 w.heap.size (.slice (some ⟨g', 0, none⟩) (pre.length + 1) cap')) (.inr (hv1.not_row (by decide) hown').symm)
    refine ⟨hk2, ⟨hb2, fun k hk c t f hc0 => ?_⟩, ⟨_, hv2, by simpa [vals] using hr3, trivial⟩, hB.trans hb2, ?_⟩
    · have hkl : k < W.heap.size := (Array.getElem?_eq_some_iff.1 hc0).1
      rw [Below.heap_setCell _ _ _ _ (by show k ≠ w.heap.size; omega), hgrow.block k (by simp; omega) (fun e => by have := (World.ownsRow.lt hrow k e.symm).1; omega), Below.heap_alloc _ _ _ hkl]
      exact hc0
    · have := hb2.size
      omega
  case done =>
    rintro D ys W hD hys ⟨⟨v, hv, hrow, -⟩, hB, hW3⟩ hK
    obtain ⟨A5, c5, rfl⟩ := owns_form hrow
    have hc := hv.cell
    have hvf := hv.frozen
    clear h0 hseq
    gi_wp2
    have hK2 : (W.setCell ⟨w.heap.size, 0, none⟩ (.slice A5 ys.length c5)).heap[D]? = some (.deferred (some [])) := by
      rw [Below.heap_setCell _ _ _ _ (by show D ≠ w.heap.size; omega)]
      exact hK
    have hv2 := hv.set (.slice A5 ys.length c5)
    have hr2 := hrow.kept (grownBy_setCell' W w.heap.size (.slice A5 ys.length c5)) (.inr (hv.not_row (by decide) hrow).symm)
    have hB2 := hB.setCell (p := ⟨w.heap.size, 0, none⟩) (Nat.le_refl _) (.slice A5 ys.length c5)
    refine ⟨by simp, .inl ⟨_, _, rfl, run_takeDeferred hK2, ?_⟩⟩
    have c1 := ((show Blk _ w.heap.size 32 #[.slice A5 ys.length c5] from hv2).put hK2 rfl (.deferred none)).cell
    have hr3 := ownsRow_putObj hr2 (.deferred none) hK2 rfl
    refine ⟨.slice A5 ys.length c5, ?_, ⟨_, rfl, ?_, belowD hB2 (by omega) hK2⟩⟩
    · simp only [results, Tryz.results30]
      go_simp
    · rw [← hys]
      have e1 : strs (ys.map (fun x => x.1)) = vals ys := by
        unfold Go.Proofs.YtbafofldgkigmaaGreatDoor.strs vals
        rw [List.map_map]
        rfl
      unfold Go.Proofs.YtbafofldgkigmaaGreatDoor.Own
      rw [e1, List.length_map]
      exact owns_less hr3 (by omega)
  case stop =>
    rintro D c pre W hD hpre h
    exact absurd h id
/-- The values of a name, all of them together. -/
def Gl.combined (L : List Gl.Head) (n : List UInt8) : List UInt8 := Lib.join (Gl.values L n) [44, 32]
theorem lens_bound (M : Nat) : ∀ xs : List (List UInt8), (∀ x ∈ xs, x.length ≤ M) → Lib.lens xs ≤ xs.length * M := by
  intro xs
  induction xs with
  | nil => intro _; simp [Lib.lens]
  | cons x r ih =>
    intro h
    have hx := h x (by simp)
    have hr := ih (fun y hy => h y (by simp [hy]))
    simp only [Lib.lens, List.map_cons, List.sum_cons, List.length_cons, Nat.succ_mul] at hr ⊢
    omega
theorem join_bound (M : Nat) (sep : List UInt8) (xs : List (List UInt8)) (h : ∀ x ∈ xs, x.length ≤ M) : (Lib.join xs sep).length ≤ xs.length * M + sep.length * xs.length := by
  cases xs with
  | nil => simp [Lib.join_nil]
  | cons x r =>
    have hx := h x (by simp)
    have hr := lens_bound M r (fun y hy => h y (by simp [hy]))
    rw [Lib.join_cons, List.length_append, Lib.joinTail_length, List.length_cons, Nat.succ_mul, Nat.mul_succ]
    omega
set_option maxRecDepth 100000 in
set_option maxHeartbeats 2000000 in
theorem headers_combined (v : Value) (L : List Gl.Head) (nm : List UInt8) (w : World) (hv : Heads w v L) (hL : ∀ h ∈ L, HeadFit h) (hLl : L.length ≤ 1000000) (hnm : nm.length ≤ 281474976710656) :
    Calls Tryz.prog 60 #[v, (Value.string ⟨(nm).toArray⟩)] w (Ret w (.tuple #[(Value.string ⟨(Gl.combined L nm).toArray⟩), .bool (decide (0 < (Gl.values L nm).length))])) := by
  have h1 := headers_values v L nm w hv hL hLl hnm
  have hvl := values_len L nm
  have hvm : ∀ x ∈ Gl.values L nm, x.length ≤ 1000000 := fun x hx => by
    unfold Gl.values at hx
    obtain ⟨h, hh, rfl⟩ := List.mem_map.1 hx
    exact Nat.le_trans (trimH_len _) (hL h (List.mem_filter.1 hh).1).value
  have hjl := join_bound 1000000 [44, 32] (Gl.values L nm) hvm
  have hjl2 : (Lib.join (Gl.values L nm) [44, 32]).length ≤ 140737488355328 := by
    refine Nat.le_trans hjl ?_
    have h2 := Nat.le_trans hvl hLl
    simp only [List.length_cons, List.length_nil]
    omega
  have hj := fun v W (h : Strs W W.heap.size v (Gl.values L nm)) => join_any (Gl.values L nm) [44, 32] v W h (by omega) hjl2
  unfold Gl.combined
  obtain ⟨A, c, rfl⟩ := hv.form
  generalize Gl.values L nm = V at *
  generalize Lib.join V [44, 32] = J at *
  replace h1 := Lib.hid h1
  replace hj := Lib.hid hj
  clear hv hL hvm hjl hjl2
  by_cases h0 : 0 < V.length
  · rw [decide_eq_true h0]
    go_enter Tryz.func60, Tryz.ntmps60
    go_wp2_with (first | (go_at_call 30; refine h1.out.mono ?_; rintro e wV ⟨v1, rfl, hown, hbV⟩; obtain ⟨A1, c1, rfl⟩ := owns_form hown; replace hown := Lib.hid hown; have hbVz := hbV.size) | (go_at_call 90; refine (hj.out _ _ (hown.out.strs)).mono ?_; rintro e w1 ⟨rfl, hb⟩; obtain ⟨hc, hfz⟩ := bcell hb; have hz := hb.size; (try simp at hz); (try have hz0 := lt_ hb w.heap.size); (try have hz1 := lt_ hb (w.heap.size + 1)); (try have hz2 := lt_ hb (w.heap.size + 2)); (try have hz3 := lt_ hb (w.heap.size + 3)); (try have hcA := fun o => hc w.heap.size o sz_); (try have hcB := fun o => hc (w.heap.size + 1) o sz_)))
    refine bodyPost_ret (v := .tuple #[(Value.string ⟨(J).toArray⟩), .bool true]) (by simp only [results, Tryz.results60]; go_simp) rfl ⟨rfl, ?_⟩
    (exact bw_)
  · rw [decide_eq_false h0]
    go_enter Tryz.func60, Tryz.ntmps60
    go_wp2_with (first | (go_at_call 30; refine h1.out.mono ?_; rintro e wV ⟨v1, rfl, hown, hbV⟩; obtain ⟨A1, c1, rfl⟩ := owns_form hown; replace hown := Lib.hid hown; have hbVz := hbV.size) | (go_at_call 90; refine (hj.out _ _ (hown.out.strs)).mono ?_; rintro e w1 ⟨rfl, hb⟩; obtain ⟨hc, hfz⟩ := bcell hb; have hz := hb.size; (try simp at hz); (try have hz0 := lt_ hb w.heap.size); (try have hz1 := lt_ hb (w.heap.size + 1)); (try have hz2 := lt_ hb (w.heap.size + 2)); (try have hz3 := lt_ hb (w.heap.size + 3)); (try have hcA := fun o => hc w.heap.size o sz_); (try have hcB := fun o => hc (w.heap.size + 1) o sz_)))
    refine bodyPost_ret (v := .tuple #[(Value.string ⟨(J).toArray⟩), .bool false]) (by simp only [results, Tryz.results60]; go_simp) rfl ⟨rfl, ?_⟩
    (exact bw_)
end Go.Proofs.YtbafofldgkigmaaGreatDoor
