/- host.Parse: the host that a text is. -/
import Derived.Test.YthmgcnaoionmoaaDoorLabels
import Derived.Test.YthmgcnaoionmoaaDoorLower
import Derived.Test.YthmgcnaoionmoaaDoorNumber
namespace Go.Proofs.YthmgcnaoionmoaaDoor
open Go.RowKit Go.Shelf
attribute [local go_sem] Oper.semAt_some

theorem ko {W A : World} (h : KeepsOthers W A) (p : Addr) (v : Value) : KeepsOthers W (A.setCell p v) := h.trans (KeepsOthers.setCell A p v)
theorem Blk.put {w : World} {g : Nat} {t : TypeId} {cs : Array Value} (h : Blk w g t cs) {D : Nat} {o : Obj} (hD : w.heap[D]? = some o) (ho : o.isCells = false) (o' : Obj) : Blk (w.putObj D o') g t cs :=
  h.own (grownBy_putObj' w D o') (fun r e => by cases e; exact ⟨o, hD, ho⟩)

theorem belowD {w W : World} {D : Nat} {o o' : Obj} (hb : Below w.heap.size w W) (hD : w.heap.size ≤ D) (_ : W.heap[D]? = some o) : Below w.heap.size w (W.putObj D o') :=
  hb.grown (grownBy_putObj' W D o') hb.size (fun k e => by cases e; exact hD)

/-- Between two labels of the first loop. -/
def HI (w w1 : World) (pre : List Lab) (W : World) : Prop :=
  (Blk W w.heap.size 25 #[Value.string ⟨#[]⟩, Value.bool false, Value.int .u32 0] ∧ Blk W (w.heap.size + 1) 28 #[Value.int .i64 0] ∧
  Blk W w1.heap.size 9 #[(Value.string ⟨(((pre.map (fun x : Lab => x.1.2)).getLast?).getD []).toArray⟩)] ∧ Blk W (w1.heap.size + 1) 3 #[Value.int .i64 (pre.length : Int)] ∧ (pre.map (fun x : Lab => x.1.2)).all Gl.isLabel = true) ∧ Below w.heap.size w W
/-- A label that may not be. -/
def HIx (w : World) (c : Code) (pre : List Lab) (W : World) : Prop :=
  (c = .ret ∧ Blk W w.heap.size 25 #[Value.string ⟨#[]⟩, Value.bool false, Value.int .u32 0] ∧ Blk W (w.heap.size + 1) 28 #[Value.int .i64 20] ∧ (pre.map (fun x : Lab => x.1.2)).all Gl.isLabel = false) ∧ Below w.heap.size w W
theorem HI.own (w w1 : World) (B : Nat) (hB : w.heap.size ≤ B) : OwnFrom B (HI w w1) := by
  refine OwnFrom.and (Own.from (fun s A B row hs hg hr => ?_) _) (ownFrom_below (Nat.le_refl _) hB)
  exact ⟨hs.1.own hg hr, hs.2.1.own hg hr, hs.2.2.1.own hg hr, hs.2.2.2.1.own hg hr, hs.2.2.2.2⟩
theorem HIx.own (w : World) (c : Code) (B : Nat) (hB : w.heap.size ≤ B) : OwnFrom B (HIx w c) := by
  refine OwnFrom.and (Own.from (fun s A B row hs hg hr => ?_) _) (ownFrom_below (Nat.le_refl _) hB)
  exact ⟨hs.1, hs.2.1.own hg hr, hs.2.2.1.own hg hr, hs.2.2.2⟩

theorem host_fits_small_at (s : List UInt8) (w : World) (hs : s.length ≤ 281474976710656) {b : Bool} (h : s.all Gl.isSmall = b) :
    Calls Tryd.prog 98 #[(Value.string ⟨(s).toArray⟩), .func (.func 99) #[] #[]] w (Same w (.bool b)) := h ▸ host_fits_small s w hs
theorem host_fits_digit_at (s : List UInt8) (w : World) (hs : s.length ≤ 281474976710656) {b : Bool} (h : s.all Gl.isDigit = b) :
    Calls Tryd.prog 98 #[(Value.string ⟨(s).toArray⟩), .func (.func 100) #[] #[]] w (Same w (.bool b)) := h ▸ host_fits_digit s w hs

theorem hostOf_bad (s : List UInt8) (h : (Gl.split 46 s).all Gl.isLabel = false) : Gl.hostOf s = ({}, 20) := by
  unfold Gl.hostOf
  split
  · rfl
  · unfold Gl.host1
    rw [h]
    rfl

/-- The result is stored. -/
theorem hstore {w W : World} {x y z u : Value} (n v ad e : Value) (b1 : Blk W w.heap.size 25 #[x, y, z]) (b2 : Blk W (w.heap.size + 1) 28 #[u]) (hb : Below w.heap.size w W) :
    Blk ((((W.setCell ⟨w.heap.size, 0, none⟩ n).setCell ⟨w.heap.size, 1, none⟩ v).setCell ⟨w.heap.size, 2, none⟩ ad).setCell ⟨w.heap.size + 1, 0, none⟩ e) w.heap.size 25 #[n, v, ad] ∧
    Blk ((((W.setCell ⟨w.heap.size, 0, none⟩ n).setCell ⟨w.heap.size, 1, none⟩ v).setCell ⟨w.heap.size, 2, none⟩ ad).setCell ⟨w.heap.size + 1, 0, none⟩ e) (w.heap.size + 1) 28 #[e] ∧
    Below w.heap.size w ((((W.setCell ⟨w.heap.size, 0, none⟩ n).setCell ⟨w.heap.size, 1, none⟩ v).setCell ⟨w.heap.size, 2, none⟩ ad).setCell ⟨w.heap.size + 1, 0, none⟩ e) ∧
    KeepsOthers W ((((W.setCell ⟨w.heap.size, 0, none⟩ n).setCell ⟨w.heap.size, 1, none⟩ v).setCell ⟨w.heap.size, 2, none⟩ ad).setCell ⟨w.heap.size + 1, 0, none⟩ e) := by
  have e1 : Blk (W.setCell ⟨w.heap.size, 0, none⟩ n) w.heap.size 25 _ := b1.set_ 0 _
  have e2 := ((e1.set_ 1 v).set_ 2 ad).far (p := ⟨w.heap.size + 1, 0, none⟩) (by simp) e
  have e3 := (((b2.far (p := ⟨w.heap.size, 0, none⟩) (by simp) n).far (p := ⟨w.heap.size, 1, none⟩) (by simp) v).far (p := ⟨w.heap.size, 2, none⟩) (by simp) ad).set_ 0 e
  refine ⟨by simpa using e2, by simpa using e3, (((hb.setCell (by simp) _).setCell (by simp) _).setCell (by simp) _).setCell (by simp) _, ko (ko (ko (ko (KeepsOthers.refl W) _ _) _ _) _ _) _ _⟩

theorem addrGo_snoc (L : List (List UInt8)) (x : List UInt8) (a : Nat) : Gl.addrGo a (L ++ [x]) = (Gl.addrGo a L).bind (fun b => (Gl.number x 255).map (fun n => (b * 256 + n.toNat) % 4294967296)) := by
  induction L generalizing a with
  | nil =>
    simp only [List.nil_append, Gl.addrGo, Option.bind_some]
    cases Gl.number x 255 <;> rfl
  | cons y L ih =>
    simp only [List.cons_append, Gl.addrGo]
    cases Gl.number y 255 with
    | none => rfl
    | some n => exact ih _
theorem addrGo_none (L M : List (List UInt8)) (a : Nat) (h : Gl.addrGo a L = none) : Gl.addrGo a (L ++ M) = none := by
  induction L generalizing a with
  | nil => simp [Gl.addrGo] at h
  | cons y L ih =>
    simp only [List.cons_append, Gl.addrGo] at h ⊢
    cases hn : Gl.number y 255 with
    | none => rfl
    | some n => rw [hn] at h; exact ih _ h

/-- Between two labels of the second loop: the address so far lies in block g; D is the first loop's mark. -/
def HJ (w : World) (g D : Nat) (pre : List Lab) (W : World) : Prop :=
  ((Blk W w.heap.size 25 #[Value.string ⟨#[]⟩, Value.bool false, Value.int .u32 0] ∧ Blk W (w.heap.size + 1) 28 #[Value.int .i64 0] ∧
  (∃ a : Nat, a < 256 ^ pre.length ∧ Gl.addrGo 0 (pre.map (fun x : Lab => x.1.2)) = some a ∧ Blk W g 25 #[Value.string ⟨#[]⟩, Value.bool true, Value.int .u32 (a : Int)])) ∧ W.heap[D]? = some (.deferred (some []))) ∧ Below w.heap.size w W
def HJx (w : World) (D : Nat) (c : Code) (pre : List Lab) (W : World) : Prop :=
  ((c = .ret ∧ Blk W w.heap.size 25 #[Value.string ⟨#[]⟩, Value.bool false, Value.int .u32 0] ∧ Blk W (w.heap.size + 1) 28 #[Value.int .i64 20] ∧
  Gl.addrGo 0 (pre.map (fun x : Lab => x.1.2)) = none) ∧ W.heap[D]? = some (.deferred (some []))) ∧ Below w.heap.size w W
theorem own_block {β : Type} (B D : Nat) (o : Obj) (hD : D < B) : OwnFrom B (fun (_ : β) W => W.heap[D]? = some o) := by
  intro s W W' row hs hg hr
  refine (hg.block D (Array.getElem?_eq_some_iff.1 hs).1 (fun e => ?_)).trans hs
  have := (hr D e.symm).1
  omega
theorem HJ.own (w : World) (g D B : Nat) (hB : w.heap.size ≤ B) (hD : D < B) : OwnFrom B (HJ w g D) := by
  refine OwnFrom.and (OwnFrom.and (Own.from (fun s A B row hs hg hr => ?_) _) (own_block B D _ hD)) (ownFrom_below (Nat.le_refl _) hB)
  obtain ⟨h1, h2, a, h3, h4, h5⟩ := hs
  exact ⟨h1.own hg hr, h2.own hg hr, a, h3, h4, h5.own hg hr⟩
theorem HJx.own (w : World) (D : Nat) (c : Code) (B : Nat) (hB : w.heap.size ≤ B) (hD : D < B) : OwnFrom B (HJx w D c) := by
  refine OwnFrom.and (OwnFrom.and (Own.from (fun s A B row hs hg hr => ?_) _) (own_block B D _ hD)) (ownFrom_below (Nat.le_refl _) hB)
  exact ⟨hs.1, hs.2.1.own hg hr, hs.2.2.1.own hg hr, hs.2.2.2⟩

/-- The function's end behind the second loop: two marks. -/
theorem host_fin2 {w W : World} {D E : Nat} {n : List UInt8} {v : Bool} {ad e : Int} {R : Value} (hD : w.heap.size ≤ D) (hE : w.heap.size ≤ E) (hne : D ≠ E) (hK : W.heap[D]? = some (.deferred (some []))) (hK2 : W.heap[E]? = some (.deferred (some [])))
    (b1 : Blk W w.heap.size 25 #[(Value.string ⟨(n).toArray⟩), Value.bool v, Value.int .u32 ad]) (b2 : Blk W (w.heap.size + 1) 28 #[Value.int .i64 e]) (hb : Below w.heap.size w W)
    (tmps : Array Value) (h2 : tmps[2]? = some (.pointer (some ⟨w.heap.size, 0, none⟩))) (h3 : tmps[3]? = some (.pointer (some ⟨w.heap.size + 1, 0, none⟩)))
    (hR : R = .tuple #[.agg #[(Value.string ⟨(n).toArray⟩), .bool v, .int .u32 ad], .int .i64 e]) :
    LeavesInM Fence.wide 20 Tryd.prog Tryd.f75 tmps (Ret w R) [{ target := .collected D, args := #[] }, { target := .collected E, args := #[] }] .returning W := by
  refine ⟨by simp, .inl ⟨_, _, rfl, run_takeDeferred hK, ?_⟩⟩
  have hK3 : (W.putObj D (.deferred none)).heap[E]? = some (.deferred (some [])) := (World.putObj_heap_other (Ne.symm hne)).trans hK2
  have a1 := b1.put hK rfl (.deferred none)
  have a2 := b2.put hK rfl (.deferred none)
  have a3 := belowD (o' := .deferred none) hb hD hK
  refine ⟨by simp, .inl ⟨_, _, rfl, run_takeDeferred hK3, ?_⟩⟩
  have c1 := (a1.put hK3 rfl (.deferred none)).cell
  have c2 := (a2.put hK3 rfl (.deferred none)).cell
  refine ⟨.tuple #[.agg #[(Value.string ⟨(n).toArray⟩), .bool v, .int .u32 ad], .int .i64 e], ?_, by rw [hR], belowD a3 hE hK3⟩
  simp only [results, Tryd.results75]
  go_simp

theorem or256 (a m : Nat) (hm : m < 256) (ha : a < 16777216) : bits .or .u32 ((a : Int) * 256) (m : Int) = (a : Int) * 256 + m := by
  have e : (a : Int) * 256 = ((a * 256 : Nat) : Int) := by rw [Int.natCast_mul]; rfl
  rw [e]
  have e1 : (BitVec.ofInt 32 ((a * 256 : Nat) : Int)).toNat = a * 256 := by
    rw [BitVec.ofInt_natCast, BitVec.toNat_ofNat]; exact Nat.mod_eq_of_lt (by omega)
  have e2 : (BitVec.ofInt 32 (m : Int)).toNat = m := by
    rw [BitVec.ofInt_natCast, BitVec.toNat_ofNat]; exact Nat.mod_eq_of_lt (by omega)
  have h : (BitVec.ofInt 32 ((a * 256 : Nat) : Int) ||| BitVec.ofInt 32 (m : Int)).toNat = a * 256 + m := by
    rw [BitVec.toNat_or, e1, e2]
    have := Nat.shiftLeft_add_eq_or_of_lt (i := 8) hm a
    rw [Nat.shiftLeft_eq] at this
    exact this.symm
  show IntKind.u32.wrap ((BitVec.ofInt 32 ((a * 256 : Nat) : Int) ||| BitVec.ofInt 32 (m : Int)).toNat : Int) = _
  rw [h, IntKind.wrap_u32]
  omega

/-- The function's end behind the first loop: the loop's mark is taken up. -/
theorem host_fin1 {w W : World} {D : Nat} {n : List UInt8} {v : Bool} {ad e : Int} {R : Value} (hD : w.heap.size ≤ D) (hK : W.heap[D]? = some (.deferred (some [])))
    (b1 : Blk W w.heap.size 25 #[(Value.string ⟨(n).toArray⟩), Value.bool v, Value.int .u32 ad]) (b2 : Blk W (w.heap.size + 1) 28 #[Value.int .i64 e]) (hb : Below w.heap.size w W)
    (tmps : Array Value) (h2 : tmps[2]? = some (.pointer (some ⟨w.heap.size, 0, none⟩))) (h3 : tmps[3]? = some (.pointer (some ⟨w.heap.size + 1, 0, none⟩)))
    (hR : R = .tuple #[.agg #[(Value.string ⟨(n).toArray⟩), .bool v, .int .u32 ad], .int .i64 e]) :
    LeavesInM Fence.wide 20 Tryd.prog Tryd.f75 tmps (Ret w R) [{ target := .collected D, args := #[] }] .returning W := by
  refine ⟨by simp, .inl ⟨_, _, rfl, run_takeDeferred hK, ?_⟩⟩
  have c1 := (b1.put hK rfl (.deferred none)).cell
  have c2 := (b2.put hK rfl (.deferred none)).cell
  refine ⟨.tuple #[.agg #[(Value.string ⟨(n).toArray⟩), .bool v, .int .u32 ad], .int .i64 e], ?_, by rw [hR], belowD hb hD hK⟩
  simp only [results, Tryd.results75]
  go_simp

set_option maxRecDepth 100000 in
set_option maxHeartbeats 2000000 in
theorem host_parse (s0 : List UInt8) (w : World) (hs0 : s0.length ≤ 1099511627774) :
    Calls Tryd.prog 75 #[(Value.string ⟨(s0).toArray⟩)] w (Ret w (.tuple #[(Value.agg #[(Value.string ⟨(((Gl.hostParse s0).1).name).toArray⟩), (Value.bool ((Gl.hostParse s0).1).v4), (Value.int .u32 (((Gl.hostParse s0).1).addr : Int))]), .int .i64 (Gl.hostParse s0).2])) := by
  have hRR : Gl.hostParse s0 = Gl.hostOf (Gl.lower s0) := rfl
  have hl := lower_length s0
  generalize hR : Gl.hostParse s0 = R
  rw [hR] at hRR
  clear hR
  generalize hS : Gl.lower s0 = s at *
  replace hS := Lib.hid hS
  replace hRR := Lib.hid hRR
  have hs : s.length ≤ 1099511627774 := by omega
  have hs1 : s.length ≤ 281474976710656 := by omega
  clear hl
  refine (callsIn_wide (n := 20)).1 ?_
  refine callsIn_of_wp_marks Tryd.func75 rfl trivial ?_ rfl
  simp only [Tryd.ntmps75, List.size_toArray, List.length_cons, List.length_nil, Nat.reduceAdd, Nat.reduceSub, Array.replicate_succ, Array.replicate_zero, List.push_toArray, List.append_toArray, List.nil_append, List.cons_append]
  gi_wp2_with (first
    | (refine ⟨trivial, ?_⟩; gi_at_call 47; refine (callsIn_wide.2 (hS.out ▸ octet_lower s0 _ (by omega))).mono ?_; rintro e w1 ⟨rfl, hb⟩; obtain ⟨hc, hfz⟩ := bcell hb; have hz := hb.size; simp at hz)
    | (refine ⟨trivial, ?_⟩; gi_at_call 97; refine (callsIn_wide.2 (host_labels s _)).mono ?_; rintro e w2 ⟨rfl, rfl⟩))
  have b1 : Blk w1 w.heap.size 25 #[Value.string ⟨#[]⟩, Value.bool false, Value.int .u32 0] := ((Blk.new w _ _).alloc _).below hb (by simp; omega)
  have b2 : Blk w1 (w.heap.size + 1) 28 #[Value.int .i64 0] := by
    have := Blk.new (w.alloc (.cells #[Value.string ⟨#[]⟩, Value.bool false, Value.int .u32 0] 25)) 28 #[Value.int .i64 0]
    simp only [World.size_alloc] at this
    exact this.below hb (by simp)
  have hB1 : Below w.heap.size w w1 := (((Below.refl _ w).alloc (Nat.le_refl _) _).alloc (by simp) _).trans (hb.mono (by simp; omega))
  have hL := labels_stops 19 (by omega) (w1.heap.size + 1 + 1) (w1.heap.size + 3) s hs1 hs (((w1.alloc (Obj.cells #[Value.string ⟨#[]⟩] 9)).alloc (Obj.cells #[Value.int IntKind.i64 0] 3)).alloc (Obj.cells #[(Value.string ⟨(s).toArray⟩)] 9)) (by simp) (by simp) (by go_simp)
  have h0 : HI w w1 [] (((w1.alloc (Obj.cells #[Value.string ⟨#[]⟩] 9)).alloc (Obj.cells #[Value.int IntKind.i64 0] 3)).alloc (Obj.cells #[(Value.string ⟨(s).toArray⟩)] 9)) := by
    refine ⟨⟨((b1.alloc _).alloc _).alloc _, ((b2.alloc _).alloc _).alloc _, ((Blk.new w1 _ _).alloc _).alloc _, ?_, rfl⟩, ((hB1.alloc (by omega) _).alloc (by simp; omega) _).alloc (by simp; omega) _⟩
    have := Blk.new (w1.alloc (.cells #[Value.string ⟨#[]⟩] 9)) 3 #[Value.int .i64 0]
    simp only [World.size_alloc] at this
    exact this.alloc _
  clear b1 b2 hc hfz
  refine wpIn_rangeFunc_ownF rfl (by omega) (gf := 114) (lb := #[.pointer (some ⟨w1.heap.size + 1 + 1, 0, none⟩)]) rfl trivial (enters_of Tryd.func114 (by kernel_rfl) rfl) hL (fun h k => h.trans k) (fun W l o o' _ h ho _ => Upper.putObj W l o o' h ho) (Below.refl _ _) (fun _ => rfl)
    (HI w w1) (HIx w) (HI.own w w1 _ (by simp; omega)) (fun c => HIx.own w c _ (by simp; omega)) h0
    (fun x => { tmps := #[(Value.string ⟨(s).toArray⟩), undef, Value.pointer (some ⟨w.heap.size, 0, none⟩), Value.pointer (some ⟨w.heap.size + 1, 0, none⟩), Value.pointer (some ⟨w1.heap.size, 0, none⟩), Value.pointer (some ⟨w1.heap.size + 1, 0, none⟩), undef, (Value.string ⟨(x.1.2).toArray⟩), undef, undef, undef, undef, undef, (Value.string ⟨(s0).toArray⟩), (Value.string ⟨(s).toArray⟩), (Value.string ⟨(s).toArray⟩), Value.func (Fn.func 114) #[] #[Value.pointer (some ⟨w1.heap.size + 1 + 1, 0, none⟩)], Value.int .i64 (x.1.1 : Int), (Value.string ⟨(x.1.2).toArray⟩), undef, undef, undef, undef, undef, undef, undef, undef, undef, undef, undef, undef, undef, undef, undef, undef, undef, undef, undef, undef, undef, undef, undef, undef, undef, undef, undef, undef, undef, undef, undef, undef, undef, undef, undef, undef, undef, undef, undef, undef, undef, undef, undef, undef, undef, undef, undef, undef, undef, undef, undef, undef, undef, undef, undef, undef, undef], defers := [] }) ?assign ?body ?done ?stop
  case assign =>
    intro l x W K hK
    simp only [encLab]
    gi_wp2
    exact hK
  case body =>
    rintro l pre ⟨⟨j, x⟩, hx⟩ W ⟨⟨b1, b2, b3, b4, hall⟩, hbW⟩ hpre
    have hpl : pre.length ≤ 1099511627774 := by have := split_len 46 s; omega
    clear h0 hL hb hRR hS hpre
    have c1 := b1.frozen
    have c2 := b2.frozen
    have c3 := b3.frozen
    have c4 := b4.frozen
    have d1 := b1.cell
    have d2 := b2.cell
    have d3 := b3.cell
    have d4 := b4.cell
    have hlw : w.heap.size + 1 < w1.heap.size := by omega
    have hno : ∀ A, KeepsOthers W A → Upper (w1.heap.size + 3) W A → Below w.heap.size w A → Blk A w.heap.size 25 #[Value.string ⟨#[]⟩, Value.bool false, Value.int .u32 0] → Blk A (w.heap.size + 1) 28 #[Value.int .i64 20] → Gl.isLabel x = false →
        KeepsOthers W A ∧ HIx w .ret (pre ++ [⟨(j, x), hx⟩]) A := fun A h1 _ h3 h4 h5 h6 => ⟨h1, ⟨rfl, h4, h5, by rw [List.map_append, List.all_append]; simp [h6]⟩, h3⟩
    by_cases hlab : Gl.isLabel x = true
    · have hl1 : 1 ≤ x.length := by simp [Gl.isLabel] at hlab; omega
      have hl2 : x.length ≤ 63 := by simp [Gl.isLabel] at hlab; omega
      have hsm : Hid (x.all Gl.isSmall = true) := Lib.hid (by simp [Gl.isLabel] at hlab; simpa using hlab.2)
      replace hlab := Lib.hid hlab
      clear hno
      gi_wp2_with (refine ⟨trivial, ?_⟩; gi_at_call 98; refine (CallsIn.inRound l (callsIn_wide.2 (host_fits_small_at x _ hx hsm.out))).mono ?_; rintro e w2 ⟨rfl, rfl⟩)
      have hw64 : (pre.length : Int) + 1 = ((pre ++ [⟨(j, x), hx⟩] : List Lab).length : Int) := by simp
      rw [hw64]
      refine ⟨ko (ko (KeepsOthers.refl W) _ _) _ _, ((Upper.refl _ W).setCell (by first | omega | (simp; done) | (simp; omega)) _).setCell (by first | omega | (simp; done) | (simp; omega)) _, ⟨?_, ?_, ?_, ?_, ?_⟩, (hbW.setCell (by simp; omega) _).setCell (by simp; omega) _⟩
      · exact (b1.far (by simp; omega) _).far (by simp; omega) _
      · exact (b2.far (by simp; omega) _).far (by simp; omega) _
      · have := (b3.set_ 0 ((Value.string ⟨(x).toArray⟩))).far (p := ⟨w1.heap.size + 1, 0, none⟩) (by simp) (Value.int .i64 ((pre ++ [⟨(j, x), hx⟩] : List Lab).length : Int))
        simpa using this
      · have := (b4.far (p := ⟨w1.heap.size, 0, none⟩) (by simp) ((Value.string ⟨(x).toArray⟩))).set_ 0 (Value.int .i64 ((pre ++ [⟨(j, x), hx⟩] : List Lab).length : Int))
        simpa using this
      · rw [List.map_append, List.all_append, hall]
        simp [hlab.out]
    · have hf : Gl.isLabel x = false := by simpa using hlab
      clear hlab
      rcases (show x.length < 1 ∨ 63 < x.length ∨ (1 ≤ x.length ∧ x.length ≤ 63 ∧ x.all Gl.isSmall = false) from by
        by_cases h1 : x.length < 1
        · exact .inl h1
        · by_cases h2 : 63 < x.length
          · exact .inr (.inl h2)
          · refine .inr (.inr ⟨by omega, by omega, ?_⟩)
            simp [Gl.isLabel] at hf
            have := hf (by omega) (by omega)
            simpa using this) with h1 | h1 | ⟨h1, h2, h3⟩
      · gi_wp2
        refine ⟨trivial, ?_⟩
        gi_wp2
        have e1 : Blk (W.setCell ⟨w.heap.size, 0, none⟩ (Value.string ⟨#[]⟩)) w.heap.size 25 _ := b1.set_ 0 _
        have e2 := (e1.set_ 1 (Value.bool false)).set_ 2 (Value.int .u32 0)
        refine hno _ (ko (ko (ko (ko (KeepsOthers.refl W) _ _) _ _) _ _) _ _) (((((Upper.refl _ W).setCell (by simp; omega) _).setCell (by simp; omega) _).setCell (by simp; omega) _).setCell (by simp; omega) _)
          ((((hbW.setCell (by simp) _).setCell (by simp) _).setCell (by simp) _).setCell (by simp) _) ?_ ?_ hf
        · exact (by simpa using e2.far (p := ⟨w.heap.size + 1, 0, none⟩) (by simp) (Value.int .i64 20))
        · have := (((b2.far (p := ⟨w.heap.size, 0, none⟩) (by simp) (Value.string ⟨#[]⟩)).far (p := ⟨w.heap.size, 1, none⟩) (by simp) (Value.bool false)).far (p := ⟨w.heap.size, 2, none⟩) (by simp) (Value.int .u32 0)).set_ 0 (Value.int .i64 20)
          simpa using this
      · gi_wp2
        refine ⟨trivial, ?_⟩
        gi_wp2
        have e1 : Blk (W.setCell ⟨w.heap.size, 0, none⟩ (Value.string ⟨#[]⟩)) w.heap.size 25 _ := b1.set_ 0 _
        have e2 := (e1.set_ 1 (Value.bool false)).set_ 2 (Value.int .u32 0)
        refine hno _ (ko (ko (ko (ko (KeepsOthers.refl W) _ _) _ _) _ _) _ _) (((((Upper.refl _ W).setCell (by simp; omega) _).setCell (by simp; omega) _).setCell (by simp; omega) _).setCell (by simp; omega) _)
          ((((hbW.setCell (by simp) _).setCell (by simp) _).setCell (by simp) _).setCell (by simp) _) ?_ ?_ hf
        · exact (by simpa using e2.far (p := ⟨w.heap.size + 1, 0, none⟩) (by simp) (Value.int .i64 20))
        · have := (((b2.far (p := ⟨w.heap.size, 0, none⟩) (by simp) (Value.string ⟨#[]⟩)).far (p := ⟨w.heap.size, 1, none⟩) (by simp) (Value.bool false)).far (p := ⟨w.heap.size, 2, none⟩) (by simp) (Value.int .u32 0)).set_ 0 (Value.int .i64 20)
          simpa using this
      · gi_wp2_with (refine ⟨trivial, ?_⟩; gi_at_call 98; refine (CallsIn.inRound l (callsIn_wide.2 (host_fits_small_at x _ hx h3))).mono ?_; rintro e w2 ⟨rfl, rfl⟩)
        have e1 : Blk (W.setCell ⟨w.heap.size, 0, none⟩ (Value.string ⟨#[]⟩)) w.heap.size 25 _ := b1.set_ 0 _
        have e2 := (e1.set_ 1 (Value.bool false)).set_ 2 (Value.int .u32 0)
        refine hno _ (ko (ko (ko (ko (KeepsOthers.refl W) _ _) _ _) _ _) _ _) (((((Upper.refl _ W).setCell (by simp; omega) _).setCell (by simp; omega) _).setCell (by simp; omega) _).setCell (by simp; omega) _)
          ((((hbW.setCell (by simp) _).setCell (by simp) _).setCell (by simp) _).setCell (by simp) _) ?_ ?_ hf
        · exact (by simpa using e2.far (p := ⟨w.heap.size + 1, 0, none⟩) (by simp) (Value.int .i64 20))
        · have := (((b2.far (p := ⟨w.heap.size, 0, none⟩) (by simp) (Value.string ⟨#[]⟩)).far (p := ⟨w.heap.size, 1, none⟩) (by simp) (Value.bool false)).far (p := ⟨w.heap.size, 2, none⟩) (by simp) (Value.int .u32 0)).set_ 0 (Value.int .i64 20)
          simpa using this
  case stop =>
    rintro D c pre W hD hpre ⟨⟨rfl, b1, b2, hall⟩, hbW⟩ hK
    replace hRR : Hid (R = ({}, 20)) := Lib.hid (hRR.out.trans (hostOf_bad s (by
      obtain ⟨q, hq⟩ := hpre
      rw [← hq, List.all_append, hall, Bool.false_and])))
    gi_wp2
    refine host_fin1 (by simp at hD; omega) hK (n := []) (v := false) (ad := 0) (e := 20) b1 b2 hbW _ rfl rfl ?_
    rw [hRR.out]
    rfl
  case done =>
    rintro D ys W hD hys ⟨⟨b1, b2, b3, b4, hall⟩, hbW⟩ hK
    have hD' : w1.heap.size + 3 ≤ D := by simp at hD; omega
    have hyl : ys.length = (Gl.split 46 s).length := by rw [← hys, List.length_map]
    have hs0' : 1 ≤ s.length := by
      rcases Nat.eq_zero_or_pos s.length with h | h
      · obtain rfl := List.length_eq_zero_iff.1 h
        rw [hys] at hall
        exact absurd hall (by decide)
      · exact h
    have hpos := split_pos 46 s
    have hlen := split_len 46 s
    have hmem := split_mem 46 s
    rw [hys] at b3 hall
    rw [hyl] at b4
    clear hL h0 hb hyl hS hys hD
    have hlst : (((Gl.split 46 s).getLast?).getD []).length ≤ 281474976710656 := by
      rw [List.getLast?_eq_getElem?, List.getElem?_eq_getElem (by omega)]
      have := hmem _ (List.getElem_mem (show (Gl.split 46 s).length - 1 < (Gl.split 46 s).length by omega))
      simp only [Option.getD_some]
      omega
    have hK0 := (Array.getElem?_eq_some_iff.1 hK).1
    by_cases h253 : 253 < s.length
    · replace hRR : Hid (R = ({}, 20)) := Lib.hid (hRR.out.trans (by rw [Gl.hostOf, if_pos (Or.inr h253)]))
      have c1 := b1.frozen
      have c2 := b2.frozen
      have d1 := b1.cell
      have d2 := b2.cell
      have d3 := b3.cell
      have d4 := b4.cell
      have hlw : w.heap.size + 1 < w1.heap.size := by omega
      gi_wp2
      refine ⟨trivial, ?_⟩
      gi_wp2
      obtain ⟨q1, q2, q3, q4⟩ := hstore (Value.string ⟨#[]⟩) (Value.bool false) (Value.int .u32 0) (Value.int .i64 20) b1 b2 hbW
      refine host_fin1 (by omega) (q4.same D _ hK rfl) (n := []) (v := false) (ad := 0) (e := 20) q1 q2 q3 _ rfl rfl ?_
      rw [hRR.out]
      rfl
    · have hl253 : s.length ≤ 253 := by omega
      replace hRR : Hid (R = Gl.host2 s (Gl.split 46 s)) := Lib.hid (hRR.out.trans (by rw [Gl.hostOf, if_neg (by omega), Gl.host1, hall]; rfl))
      generalize hL : Gl.split 46 s = L at *
      replace hL := Lib.hid hL
      replace hmem := Lib.hid hmem
      generalize hlast : L.getLast?.getD [] = last at *
      have c1 := b1.frozen
      have c2 := b2.frozen
      have d1 := b1.cell
      have d2 := b2.cell
      have d3 := b3.cell
      have d4 := b4.cell
      have hlw : w.heap.size + 1 < w1.heap.size := by omega
      have h2 : Gl.host2 s L = if !last.all Gl.isDigit then ({ name := s }, 0) else if L.length ≠ 4 then ({}, 20) else Gl.host3 L := by
        rw [Gl.host2, hlast]
      replace hRR := Lib.hid (hRR.out.trans h2)
      clear hlast h2
      cases hdig : last.all Gl.isDigit with
      | false =>
        replace hRR : Hid (R = ({ name := s }, 0)) := Lib.hid (by rw [hRR.out, hdig]; rfl)
        replace hdig := Lib.hid hdig
        gi_wp2_with (refine ⟨trivial, ?_⟩; gi_at_call 98; refine (callsIn_wide.2 (host_fits_digit_at last _ hlst hdig.out)).mono ?_; rintro e w2 ⟨rfl, rfl⟩)
        obtain ⟨q1, q2, q3, q4⟩ := hstore ((Value.string ⟨(s).toArray⟩)) (Value.bool false) (Value.int .u32 0) (Value.int .i64 0) b1 b2 hbW
        refine host_fin1 (by omega) (q4.same D _ hK rfl) (n := s) (v := false) (ad := 0) (e := 0) q1 q2 q3 _ rfl rfl ?_
        rw [hRR.out]
        rfl
      | true =>
        by_cases h4 : L.length = 4
        · have h4' : ((L.length : Int) != 4) = false := by rw [h4]; rfl
          have hd253 : decide (253 < (s.length : Int)) = false := by simp; omega
          replace hRR : Hid (R = Gl.host3 L) := Lib.hid (by rw [hRR.out, hdig, if_neg (by simp), if_neg (fun h => h h4)])
          replace hdig := Lib.hid hdig
          replace h4 := Lib.hid h4
          gi_wp2_with (first
            | (refine ⟨trivial, ?_⟩; gi_at_call 98; refine (callsIn_wide.2 (host_fits_digit_at last _ hlst hdig.out)).mono ?_; rintro e w2 ⟨rfl, rfl⟩)
            | (refine ⟨trivial, ?_⟩; gi_at_call 97; refine (callsIn_wide.2 (host_labels s _)).mono ?_; rintro e w2 ⟨rfl, rfl⟩))
          have hL2 := labels_stops 19 (by omega) (W.heap.size + 1) (W.heap.size + 2) s hs1 hs ((W.alloc (Obj.cells #[Value.string ⟨#[]⟩, Value.bool true, Value.int .u32 0] 25)).alloc (Obj.cells #[(Value.string ⟨(s).toArray⟩)] 9)) (by simp) (by simp) (by go_simp)
          have h0 : HJ w W.heap.size D [] ((W.alloc (Obj.cells #[Value.string ⟨#[]⟩, Value.bool true, Value.int .u32 0] 25)).alloc (Obj.cells #[(Value.string ⟨(s).toArray⟩)] 9)) := by
            refine ⟨⟨⟨(b1.alloc _).alloc _, (b2.alloc _).alloc _, 0, by simp, rfl, (Blk.new W _ _).alloc _⟩, ?_⟩, (hbW.alloc hbW.size _).alloc (by simp; have := hbW.size; omega) _⟩
            exact ((Below.heap_alloc _ _ _ (by simp; omega)).trans (Below.heap_alloc _ _ _ hK0)).trans hK
          rw [hL.out] at hL2
          refine wpIn_rangeFunc_ownF rfl (by omega) (gf := 114) (lb := #[.pointer (some ⟨W.heap.size + 1, 0, none⟩)]) rfl trivial (enters_of Tryd.func114 (by kernel_rfl) rfl) hL2 (fun h k => h.trans k) (fun W l o o' _ h ho _ => Upper.putObj W l o o' h ho) (Below.refl _ _) (fun _ => rfl)
            (HJ w W.heap.size D) (HJx w D) (HJ.own w _ D _ (by simp; have := hbW.size; omega) (by simp; omega)) (fun c => HJx.own w D c _ (by simp; have := hbW.size; omega) (by simp; omega)) h0
            (fun x => { tmps := #[(Value.string ⟨(s).toArray⟩), undef, Value.pointer (some ⟨w.heap.size, 0, none⟩), Value.pointer (some ⟨w.heap.size + 1, 0, none⟩), Value.pointer (some ⟨w1.heap.size, 0, none⟩), Value.pointer (some ⟨w1.heap.size + 1, 0, none⟩), undef, undef, Value.pointer (some ⟨W.heap.size, 0, none⟩), undef, (Value.string ⟨(x.1.2).toArray⟩), undef, undef, (Value.string ⟨(s0).toArray⟩), (Value.string ⟨(s).toArray⟩), (Value.string ⟨(s).toArray⟩), Value.func (Fn.func 114) #[] #[Value.pointer (some ⟨w1.heap.size + 1 + 1, 0, none⟩)], undef, undef, undef, undef, undef, undef, undef, undef, undef, undef, undef, undef, undef, undef, undef, undef, undef, undef, undef, Value.bool false, (Value.string ⟨(s).toArray⟩), Value.int .i64 (s.length : Int), Value.bool false, Value.bool false, (Value.string ⟨(last).toArray⟩), Value.bool true, Value.bool true, Value.int .i64 (L.length : Int), Value.bool false, Value.bool false, Value.bool false, undef, Value.bool false, (Value.string ⟨(last).toArray⟩), Value.bool true, Value.bool false, undef, undef, Value.agg #[Value.string ⟨#[]⟩, Value.bool true, Value.int .u32 0], (Value.string ⟨(s).toArray⟩), Value.func (Fn.func 114) #[] #[Value.pointer (some ⟨W.heap.size + 1, 0, none⟩)], Value.int .i64 (x.1.1 : Int), (Value.string ⟨(x.1.2).toArray⟩), undef, undef, undef, undef, undef, undef, undef, undef, undef, undef, undef, undef, undef, undef, undef, undef], defers := [] }) ?assign2 ?body2 ?done2 ?stop2
          case assign2 =>
            intro l x W K hK
            simp only [encLab]
            gi_wp2
            exact hK
          case body2 =>
            clear b1 b2 b3 b4 c1 c2 d1 d2 d3 d4 hK hL2 h0
            rintro l pre ⟨⟨j, x⟩, hx⟩ V ⟨⟨⟨b1, b2, a, ha, hra, b3⟩, hK⟩, hbV⟩ hpre
            have c1 := b1.frozen
            have c2 := b2.frozen
            have c3 := b3.frozen
            have d1 := b1.cell
            have d2 := b2.cell
            have d3 := b3.cell
            have hsz := hbW.size
            have hgw : w.heap.size + 1 < W.heap.size := by omega
            cases hn : Gl.number x 255 with
            | none =>
              have hf : Hid (Gl.addrGo 0 ((pre ++ [(⟨(j, x), hx⟩ : Lab)]).map (fun x : Lab => x.1.2)) = none) := Lib.hid (by
                rw [List.map_append, List.map_cons, List.map_nil, addrGo_snoc, hra]; simp only [Option.bind_some]; rw [hn]; rfl)
              replace hn := Lib.hid hn
              replace hra := Lib.hid hra
              gi_wp2_with (refine ⟨trivial, ?_⟩; gi_at_call 76; refine (CallsIn.inRound l (callsIn_wide.2 (octet_number_none x 255 _ hx (by omega) (by omega) hn.out))).mono ?_; rintro e w2 ⟨rfl, rfl⟩)
              obtain ⟨q1, q2, q3, q4⟩ := hstore (Value.string ⟨#[]⟩) (Value.bool false) (Value.int .u32 0) (Value.int .i64 20) b1 b2 hbV
              exact ⟨q4, ⟨⟨rfl, q1, q2, hf.out⟩, q4.same D _ hK rfl⟩, q3⟩
            | some n =>
              obtain ⟨hn0, hn1⟩ := number_range (by omega) hn
              obtain ⟨m, rfl⟩ := Int.eq_ofNat_of_zero_le hn0
              have hp4 : pre.length ≤ 3 := by have := h4.out; omega
              have ha2 : a < 16777216 := by
                have : 256 ^ pre.length ≤ 256 ^ 3 := Nat.pow_le_pow_right (by omega) hp4
                omega
              have ha3 : (a : Int) ≤ 16777215 := by omega
              have hf : Hid (Gl.addrGo 0 ((pre ++ [(⟨(j, x), hx⟩ : Lab)]).map (fun x : Lab => x.1.2)) = some (a * 256 + m)) := Lib.hid (by
                rw [List.map_append, List.map_cons, List.map_nil, addrGo_snoc, hra]; simp only [Option.bind_some]; rw [hn]
                simp only [Option.map_some, Int.toNat_natCast]
                rw [show (a * 256 + m) % 4294967296 = a * 256 + m from by omega])
              have hor := or256 a m (by omega) ha2
              have ha4 : a * 256 + m < 256 ^ (pre ++ [(⟨(j, x), hx⟩ : Lab)]).length := by
                rw [List.length_append, List.length_singleton, Nat.pow_succ]; omega
              replace hn := Lib.hid hn
              replace hra := Lib.hid hra
              replace ha4 := Lib.hid ha4
              clear ha
              gi_wp2_with (refine ⟨trivial, ?_⟩; gi_at_call 76; refine (CallsIn.inRound l (callsIn_wide.2 (octet_number_some x 255 m _ hx (by omega) (by omega) hn.out))).mono ?_; rintro e w2 ⟨rfl, rfl⟩)
              have e0 : Blk (V.setCell ⟨W.heap.size, 2, none⟩ (Value.int .u32 ((a : Int) * 256 + m))) W.heap.size 25 _ := b3.set_ 2 _
              refine ⟨ko (KeepsOthers.refl V) _ _, (Upper.refl _ V).setCell (by first | omega | (simp; done) | (simp; omega)) _, ⟨⟨b1.far (by first | omega | (simp; done) | (simp; omega)) _, b2.far (by first | omega | (simp; done) | (simp; omega)) _, a * 256 + m, ha4.out, hf.out, ?_⟩, ?_⟩, hbV.setCell (by first | omega | (simp; done) | (simp; omega)) _⟩
              · push_cast
                simpa using e0
              · exact (KeepsOthers.setCell V _ _).same D _ hK rfl
          case done2 =>
            rintro E ys W' hE hys ⟨⟨⟨b1, b2, a, ha, hra, b3⟩, hK'⟩, hbW'⟩ hK2
            simp at hE
            have d1 := b1.cell
            have d2 := b2.cell
            have d3 := b3.cell
            have c1 := b1.frozen
            have c2 := b2.frozen
            have c3 := b3.frozen
            have hsz := hbW.size
            have hgw : w.heap.size + 1 < W.heap.size := by omega
            rw [hys] at hra
            replace hRR : Hid (R = ({ v4 := true, addr := a }, 0)) := Lib.hid (by rw [hRR.out, Gl.host3, hra])
            replace hra := Lib.hid hra
            clear ha
            gi_wp2
            obtain ⟨q1, q2, q3, q4⟩ := hstore (Value.string ⟨#[]⟩) (Value.bool true) (Value.int .u32 (a : Int)) (Value.int .i64 0) b1 b2 hbW'
            refine host_fin2 (by omega) (by omega) (by omega) (q4.same E _ hK2 rfl) (q4.same D _ hK' rfl) (n := []) (v := true) (ad := (a : Int)) (e := 0) q1 q2 q3 _ rfl rfl ?_
            rw [hRR.out]
          case stop2 =>
            rintro E c pre W' hE hpre ⟨⟨⟨rfl, b1, b2, hra⟩, hK'⟩, hbW'⟩ hK2
            simp at hE
            replace hRR : Hid (R = ({}, 20)) := Lib.hid (by
              obtain ⟨q, hq⟩ := hpre
              rw [hRR.out, Gl.host3, ← hq, addrGo_none _ _ _ hra])
            have hsz := hbW.size
            gi_wp2
            refine host_fin2 (by omega) (by omega) (by omega) hK2 hK' (n := []) (v := false) (ad := 0) (e := 20) b1 b2 hbW' _ rfl rfl ?_
            rw [hRR.out]
            rfl
        · have h4' : ((L.length : Int) != 4) = true := by rw [bne_iff_ne]; omega
          replace hRR : Hid (R = ({}, 20)) := Lib.hid (by rw [hRR.out, hdig, if_pos h4]; rfl)
          replace hdig := Lib.hid hdig
          replace h4 := Lib.hid h4
          gi_wp2_with (refine ⟨trivial, ?_⟩; gi_at_call 98; refine (callsIn_wide.2 (host_fits_digit_at last _ hlst hdig.out)).mono ?_; rintro e w2 ⟨rfl, rfl⟩)
          obtain ⟨q1, q2, q3, q4⟩ := hstore (Value.string ⟨#[]⟩) (Value.bool false) (Value.int .u32 0) (Value.int .i64 20) b1 b2 hbW
          refine host_fin1 (by omega) (q4.same D _ hK rfl) (n := []) (v := false) (ad := 0) (e := 20) q1 q2 q3 _ rfl rfl ?_
          rw [hRR.out]
          rfl
end Go.Proofs.YthmgcnaoionmoaaDoor
