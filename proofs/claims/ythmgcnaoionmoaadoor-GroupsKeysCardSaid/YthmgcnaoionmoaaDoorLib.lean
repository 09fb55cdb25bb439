/- The library functions that the program calls, in the words of this seat's texts. -/
import Derived.Test.YthmgcnaoionmoaaDoorShelf
import Derived.Test.YthmgcnaoionmoaaDoorCut
import Derived.Test.YthmgcnaoionmoaaDoorRef2
import Derived.ChangeAgain
namespace Go.Proofs.YthmgcnaoionmoaaDoor
open Go.RowKit

/-- What the library reads of the start: the shape of the variables, and the table of powers of ten. -/
structure Env (w : World) : Prop where
  shaped : w.ShapedOpen Tryd.prog
  tab : Lib.TabIs Tryd.prog w "internal/strconv.uint64pow10" .u64 Lib.pow10Tab
theorem Env.below {w w' : World} (h : Env w) (hb : Below w.heap.size w w') : Env w' := by
  refine ⟨h.shaped.keptBut (may := fun _ => False) (hb.frame _) (fun p hp => hp.elim), ?_⟩
  have ht := h.tab
  unfold Lib.TabIs World.var? at *
  cases hg : (Tryd.prog).globalNamed "internal/strconv.uint64pow10" with
  | none => simp [hg] at ht
  | some g =>
    simp only [hg, Option.bind_some] at ht ⊢
    have hlt : g < w.heap.size := by
      rcases Nat.lt_or_ge g w.heap.size with h' | h'
      · exact h'
      · simp [Array.getElem?_eq_none h'] at ht
    rw [hb.block g hlt]
    exact ht

theorem grow_below (w : World) (k : Nat) (os : Array Obj) : Below w.heap.size w (Sort.grow (w.drewN k) os) :=
  ⟨rfl, rfl, rfl, by simp [Sort.grow], fun j hj => by simp [Sort.grow, Array.getElem?_append_left hj]⟩

theorem itoa_any (n : Int) (h0 : -9223372036854775808 ≤ n) (h1 : n ≤ 9223372036854775807) (w : World) (hE : Env w) :
    Calls Tryd.prog 60 #[.int .i64 n] w (Ret w ((Value.string ⟨(Lib.itoa n).toArray⟩))) :=
  (Tryd.strconv_Itoa n h0 h1 w hE.tab).mono fun _ _ ⟨he, k, os, hw⟩ => ⟨he, hw ▸ grow_below w k os⟩

/-! ### one byte looked for -/
theorem index_one (c : UInt8) (l : List UInt8) : Lib.index l [c] = if l.contains c then ((l.takeWhile (fun x => !([c] : List UInt8).contains x)).length : Int) else -1 := by
  induction l with
  | nil => simp [Lib.index]
  | cons b l ih =>
    unfold Lib.index
    by_cases hb : b = c
    · subst hb
      simp
    · have h1 : ([c] : List UInt8).isPrefixOf (b :: l) = false := by simp [List.isPrefixOf]; exact fun h => hb h.symm
      have h2 : ([c] : List UInt8).contains b = false := by simp [hb]
      have h3 : (b :: l).contains c = l.contains c := by simp [Ne.symm hb]
      rw [h1, ih, h3, List.takeWhile_cons, h2]
      cases hc : l.contains c with
      | false => simp
      | true =>
        simp only [if_true, Bool.not_false, List.length_cons, Bool.false_eq_true, if_false]
        rw [if_neg (by rw [beq_iff_eq]; omega)]
        push_cast
        rfl
theorem takeWhile_take (p : UInt8 → Bool) (l : List UInt8) : l.take (l.takeWhile p).length = l.takeWhile p := by
  have e : l = l.takeWhile p ++ l.dropWhile p := List.takeWhile_append_dropWhile.symm
  conv => lhs; arg 2; rw [e]
  rw [List.take_left]
theorem takeWhile_drop (p : UInt8 → Bool) (l : List UInt8) : l.drop (l.takeWhile p).length = l.dropWhile p := by
  have e : l = l.takeWhile p ++ l.dropWhile p := List.takeWhile_append_dropWhile.symm
  conv => lhs; arg 2; rw [e]
  rw [List.drop_left]
theorem span_miss (c : UInt8) (l : List UInt8) (h : l.contains c = false) : Gl.span [c] l = (l, []) :=
  span_all [c] l (by rw [List.all_eq_true]; intro x hx; simp; intro e; subst e; simp at h; exact h hx)
theorem span_hit (c : UInt8) (l : List UInt8) (h : l.contains c = true) : (Gl.span [c] l).2 ≠ [] := by
  intro e
  have e1 : l.takeWhile (fun x => !([c] : List UInt8).contains x) ++ l.dropWhile (fun x => !([c] : List UInt8).contains x) = l := List.takeWhile_append_dropWhile
  have e2 : l.dropWhile (fun x => !([c] : List UInt8).contains x) = [] := e
  rw [e2, List.append_nil] at e1
  have e3 : (l.takeWhile (fun x => !([c] : List UInt8).contains x)).all (fun x => !([c] : List UInt8).contains x) = true := List.all_takeWhile
  rw [e1, List.all_eq_true] at e3
  have := e3 c (by simpa using h)
  simp at this
theorem cut_one (c : UInt8) (l : List UInt8) : Lib.cut l [c] = ((Gl.span [c] l).1, (Gl.span [c] l).2.drop 1, !(Gl.span [c] l).2.isEmpty) := by
  unfold Lib.cut
  rw [index_one]
  cases h : l.contains c with
  | false => rw [span_miss c l h]; simp
  | true =>
    have h2 := span_hit c l h
    simp only [if_true]
    rw [if_pos (by omega), Int.toNat_natCast, takeWhile_take]
    refine Prod.ext rfl (Prod.ext ?_ ?_)
    · show l.drop (_ + 1) = _
      rw [← List.drop_drop, takeWhile_drop]
      rfl
    · show true = _
      cases hs : (Gl.span [c] l).2 with
      | nil => exact absurd hs h2
      | cons => rfl

/-- strings.Cut at one byte. -/
theorem cut_any (l : List UInt8) (c : UInt8) (w : World) (hE : Env w) (hl : l.length < 4294967281) :
    Calls Tryd.prog 46 #[(Value.string ⟨(l).toArray⟩), .string ⟨#[c]⟩] w (Ret w (.tuple #[(Value.string ⟨((Gl.span [c] l).1).toArray⟩), (Value.string ⟨((Gl.span [c] l).2.drop 1).toArray⟩), .bool (!(Gl.span [c] l).2.isEmpty)])) := by
  refine (Tryd.strings_Cut_shaped ⟨l.toArray⟩ ⟨#[c]⟩ w hE.shaped hl).mono fun e w' ⟨he, n, hw⟩ => ⟨?_, hw ▸ below_drewN (Below.refl _ _) n⟩
  rw [he]
  show Ending.returned (.tuple #[.string ⟨(Lib.cut l [c]).1.toArray⟩, .string ⟨(Lib.cut l [c]).2.1.toArray⟩, .bool (Lib.cut l [c]).2.2]) = _
  rw [cut_one]

theorem indexByte_neg (l : List UInt8) (c : UInt8) : Lib.indexByte l c = -1 ↔ l.contains c = false := by
  induction l with
  | nil => simp [Lib.indexByte]
  | cons b l ih =>
    unfold Lib.indexByte
    have hge := Lib.indexByte_ge l c
    by_cases hb : b = c
    · subst hb; simp
    · rw [if_neg (by simpa using hb)]
      have h3 : (b :: l).contains c = l.contains c := by simp [Ne.symm hb]
      rw [h3, ← ih]
      split
      · rename_i h; simp at h; simp [h]
      · rename_i h; simp at h; constructor
        · intro h'; omega
        · intro h'; exact absurd h' h
/-- strings.IndexByte: is a byte there? -/
theorem indexByte_any (l : List UInt8) (c : UInt8) (w : World) :
    Calls Tryd.prog 73 #[(Value.string ⟨(l).toArray⟩), .int .u8 c.toNat] w (Same w (.int .i64 (Lib.indexByte l c))) := by
  refine (Tryd.strings_IndexByte ⟨l.toArray⟩ c.toNat w).mono fun e w' ⟨he, hw⟩ => ⟨?_, hw.symm⟩
  rw [he]
  simp
theorem cutPrefix_any (l p : List UInt8) (w : World) :
    Calls Tryd.prog 74 #[(Value.string ⟨(l).toArray⟩), (Value.string ⟨(p).toArray⟩)] w (Same w (.tuple #[(Value.string ⟨(if p.isPrefixOf l then l.drop p.length else l).toArray⟩), .bool (p.isPrefixOf l)])) :=
  (Tryd.strings_CutPrefix ⟨l.toArray⟩ ⟨p.toArray⟩ w).mono fun _ _ ⟨he, hw⟩ => ⟨he, hw.symm⟩
theorem hasPrefix_any (l p : List UInt8) (w : World) :
    Calls Tryd.prog 51 #[(Value.string ⟨(l).toArray⟩), (Value.string ⟨(p).toArray⟩)] w (Same w (.bool (p.isPrefixOf l))) :=
  (Tryd.strings_HasPrefix ⟨l.toArray⟩ ⟨p.toArray⟩ w).mono fun _ _ ⟨he, hw⟩ => ⟨he, hw.symm⟩
theorem trimPrefix_any (l p : List UInt8) (w : World) :
    Calls Tryd.prog 102 #[(Value.string ⟨(l).toArray⟩), (Value.string ⟨(p).toArray⟩)] w (Same w ((Value.string ⟨(if p.isPrefixOf l then l.drop p.length else l).toArray⟩))) :=
  (Tryd.strings_TrimPrefix ⟨l.toArray⟩ ⟨p.toArray⟩ w).mono fun _ _ ⟨he, hw⟩ => ⟨he, hw.symm⟩

theorem split_none (c : UInt8) (l : List UInt8) (h : l.contains c = false) : Gl.split c l = [l] := by
  have := splitGo_append c [] l [] (by simpa using h)
  simpa [Gl.split, Gl.splitGo] using this
theorem split_some (c : UInt8) (p r : List UInt8) (h : p.contains c = false) : Gl.split c (p ++ c :: r) = p :: Gl.split c r := by
  have := splitGo_append c [] p (c :: r) (by simpa using h)
  rw [Gl.split, this]
  simp [Gl.splitGo, Gl.split]
theorem span_parts (c : UInt8) (l : List UInt8) (h : l.contains c = true) : l = (Gl.span [c] l).1 ++ c :: (Gl.span [c] l).2.drop 1 ∧ (Gl.span [c] l).1.contains c = false := by
  have e1 : (Gl.span [c] l).1 ++ (Gl.span [c] l).2 = l := List.takeWhile_append_dropWhile
  have e3 : (l.takeWhile (fun x => !([c] : List UInt8).contains x)).all (fun x => !([c] : List UInt8).contains x) = true := List.all_takeWhile
  have h2 := span_hit c l h
  have h4 : ∃ r, (Gl.span [c] l).2 = c :: r := by
    cases hs : (Gl.span [c] l).2 with
    | nil => exact absurd hs h2
    | cons x r =>
      have hx : (fun x => !([c] : List UInt8).contains x) x = false := by
        have := List.head?_dropWhile_not (p := fun x => !([c] : List UInt8).contains x) (l := l)
        rw [show l.dropWhile (fun x => !([c] : List UInt8).contains x) = x :: r from hs] at this
        simpa using this
      simp at hx
      exact ⟨r, by rw [hx]⟩
  obtain ⟨r, hr⟩ := h4
  constructor
  · conv => lhs; rw [← e1, hr]
    rw [hr]
    rfl
  · rw [List.all_eq_true] at e3
    simp only [Gl.span]
    cases hc : (l.takeWhile (fun x => !([c] : List UInt8).contains x)).contains c with
    | false => rfl
    | true =>
      have := e3 c (by simpa using hc)
      simp at this

theorem splitK_one (c : UInt8) : ∀ (n : Nat) (l : List UInt8), l.length ≤ n → Lib.splitK [c] 0 (l.count c) l = Gl.split c l := by
  intro n
  induction n with
  | zero =>
    intro l hl
    obtain rfl : l = [] := List.eq_nil_of_length_eq_zero (by omega)
    rfl
  | succ n ih =>
    intro l hl
    cases hc : l.contains c with
    | false =>
      rw [List.count_eq_zero.2 (by simpa using hc), Lib.splitK, split_none c l hc]
    | true =>
      obtain ⟨e, hp⟩ := span_parts c l hc
      generalize hsp : (Gl.span [c] l).1 = p at *
      generalize (Gl.span [c] l).2.drop 1 = r at *
      subst e
      have hcp : p.count c = 0 := List.count_eq_zero.2 (by simpa using hp)
      have hix : Lib.index (p ++ c :: r) [c] = (p.length : Int) := by
        rw [index_one, hc, if_pos rfl]
        rw [show (List.takeWhile (fun x => !([c] : List UInt8).contains x) (p ++ c :: r)) = p from hsp]
      rw [List.count_append, hcp, List.count_cons_self, Nat.zero_add, Lib.splitK, hix, if_neg (by rw [beq_iff_eq]; omega), split_some c p r hp]
      rw [Int.toNat_natCast, Nat.add_zero, List.take_left]
      congr 1
      rw [List.length_singleton, ← List.drop_drop, List.drop_left]
      have := ih r (by simp at hl; omega)
      simpa using this

/-- strings.Split at one byte. -/
theorem splitS_any (l : List UInt8) (c : UInt8) (w : World) (hE : Env w) (hl : l.length < 4294967281) :
    Calls Tryd.prog 101 #[(Value.string ⟨(l).toArray⟩), .string ⟨#[c]⟩] w (RetStrs w (Gl.split c l)) := by
  refine (Tryd.strings_Split_shaped ⟨l.toArray⟩ ⟨#[c]⟩ w hE.shaped hl (Nat.le_refl 1)).mono fun e w' ⟨he, hw⟩ => ?_
  have hcnt : Lib.countB (⟨l.toArray⟩ : ByteArray) ⟨#[c]⟩ = l.count c := Lib.count_one c l
  have hmap : (Lib.splitB (⟨#[c]⟩ : ByteArray) 0 (l.count c) ⟨l.toArray⟩).map (·.data.toList) = Gl.split c l := by
    rw [Lib.splitB_data]
    exact splitK_one c l.length l (Nat.le_refl _)
  rw [hcnt] at he hw
  have hlen : (Gl.split c l).length = l.count c + 1 := by
    rw [← hmap, List.length_map]
    exact Lib.splitB_all (⟨#[c]⟩ : ByteArray) (Nat.le_refl 1) 0 _ _ hcnt
  have hstr : (Lib.splitB (⟨#[c]⟩ : ByteArray) 0 (l.count c) ⟨l.toArray⟩).map Value.string = strs (Gl.split c l) := by
    rw [← hmap]
    simp [strs, str]
  subst hw
  refine ⟨_, he, ⟨by simp [strs], Or.inr ⟨w.heap.size, l.count c + 1, _, by rw [hlen], Nat.le_refl _, heap_alloc_new _ _, by omega, ?_, ?_, ?_⟩⟩, (Below.refl _ _).alloc (Nat.le_refl _) _⟩
  · have := List.count_le_length (a := c) (l := l)
    unfold maxLen
    omega
  · rw [hstr]; simp [strs, hlen]
  · rw [hstr]
    show List.take _ (strs _).toArray.toList = _
    exact List.take_of_length_le (by simp [strs])

/-- strings.Join. -/
theorem join_any (L : List (List UInt8)) (sep : List UInt8) (v : Value) (w : World) (hv : Strs w w.heap.size v L) (hN : L.length ≤ 140737488355328) (hlen : (Lib.join L sep).length ≤ 140737488355328) :
    Calls Tryd.prog 86 #[v, (Value.string ⟨(sep).toArray⟩)] w (Ret w ((Value.string ⟨(Lib.join L sep).toArray⟩))) := by
  obtain ⟨A, c, rfl, h1, h2, h3⟩ := hv
  by_cases h0 : 0 < L.length
  · obtain ⟨b, o, rfl, hB, hc⟩ := h3 h0
    have hm : (L.map (fun x => (⟨x.toArray⟩ : ByteArray))).map (·.data.toList) = L := by
      rw [List.map_map]
      conv => rhs; rw [← List.map_id L]
      rfl
    have := Tryd.strings_Join b o c (L.map (fun x => (⟨x.toArray⟩ : ByteArray))) ⟨sep.toArray⟩ w (fun j x hx => by
      rw [List.getElem?_map] at hx
      cases hj : L[j]? with
      | none => rw [hj] at hx; cases hx
      | some y =>
        rw [hj] at hx
        simp at hx
        subst hx
        obtain ⟨hlt, rfl⟩ := List.getElem?_eq_some_iff.1 hj
        exact hc j hlt) hB (by simpa using hN) (by simpa using h1) (by rw [hm]; exact hlen)
    rw [hm, List.length_map] at this
    exact this
  · obtain rfl : L = [] := List.eq_nil_of_length_eq_zero (by omega)
    refine (Tryd.strings_Join_none A c ⟨sep.toArray⟩ w).mono fun e w' ⟨he, hw⟩ => ⟨?_, hw ▸ Below.refl _ _⟩
    rw [he]
    rfl

end Go.Proofs.YthmgcnaoionmoaaDoor
