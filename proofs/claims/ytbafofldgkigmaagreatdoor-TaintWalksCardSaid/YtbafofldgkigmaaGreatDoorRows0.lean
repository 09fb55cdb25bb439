/- From a law's contract to its row: what the start gives; arguments opened. -/
import Derived.Test.YtbafofldgkigmaaGreatDoorTwo
import Derived.Test.YtbafofldgkigmaaGreatDoorTie
import Derived.Test.YtbafofldgkigmaaGreatDoorCards
import Derived.ProofKit
import Derived.OpenShut
import Derived.LaidMore
import Derived.LaidSub
import Derived.Lay
import Derived.Handed
import Derived.SevenTiedAt
import Derived.Stop.Joined
namespace Go.Proofs.YtbafofldgkigmaaGreatDoor
open Go.ChangeShapes Go.WideShapes Go.ChangeAt Go.RowKit
open Go.ChangeMaps (open_string shut_string)

theorem ownK : ownKnob Tryz.prog.godebug = none := by kernel_rfl
theorem laidOut : laidOutB Tryz.prog = true := by kernel_rfl
abbrev laidL : List (String × DataW Unit) := Rows.corpgateOwnRow.laid

set_option maxRecDepth 100000 in
theorem env_of {W : World} (hS : W.ShapedOpen Tryz.prog) (hL : laidMetH Tryz.prog laidL W) : Env W := by
  refine ⟨hS, ?_⟩
  have h := hL.filter (fun x => x.1 == "internal/strconv.uint64pow10")
  rw [MakeChecks.laidMetH_plain _ _ _ (by kernel_rfl)] at h
  exact Lib.tabIs_of_head (P := Tryz.prog) (name := "internal/strconv.uint64pow10") (k := .u64) (zs := Lib.pow10Tab) (rest := []) (g := 1) (t := 242) (e := 219) (n := 20) (by kernel_rfl) (by kernel_rfl) (by kernel_rfl) (by kernel_rfl) (by kernel_rfl) (by kernel_rfl) h

set_option maxRecDepth 100000 in
theorem returns_of {H : Type} {enc : TypeId × Value → H} {os : Os} {f : FuncId} {fn : Func} {s : ChangeSpec} {conds : List PathCond} {apart fresh handsOn again : Bool} {L : List (String × DataW Unit)}
    (started : os.Started) (noInit : Tryz.checked.prog.inits.idxOf? f = none) (hfn : Tryz.checked.prog.funcs[f]? = some fn)
    (witness : ∃ (w : World) (tape : Tape) (i : Input), w.os = os ∧ (w.forCall tape i).Shaped Tryz.checked.prog ∧ i.vars = [] ∧ Input.okWide Tryz.checked.prog (w.forCall tape i) .any w.heap.size f i ∧
      ((s.pre enc Tryz.checked.prog fn conds apart (w.forCall tape i).memory i.args ∧ laidMetH Tryz.checked.prog L (w.forCall tape i).memory) ∧ sizedMet enc Tryz.checked.prog fn (OpenSpec.ofChange s) apart (w.forCall tape i).memory i.args) ∧ ({} : Assume).holds Tryz.checked.prog (lone (Frame.enter Tryz.checked.prog f i.args .normal) [] (w.forCall tape i)))
    (contract : ∀ (W : World) (base : Nat) (args : Array Value) (ds gs : List (DataW H)) (before : List MemPlace),
      (∀ (j : Nat) t v, fn.params[j]? = some t → args[j]? = some v → Value.okWide Tryz.checked.prog W .any base t v) →
      DataW.Whole enc Tryz.checked.prog fn.params.toList s.vars apart W args.toList ds gs before →
      laidMetH Tryz.checked.prog L W → W.ShapedOpen Tryz.checked.prog →
      Calls Tryz.checked.prog f args W fun e W' => ∃ v, e = .returned v ∧ s.post enc Tryz.checked.prog fn apart fresh handsOn again W args v W') :
    ReturnsInHanded {} Tryz.checked os f .any (fun w args => (s.pre enc Tryz.checked.prog fn conds apart w args ∧ laidMetH Tryz.checked.prog L w) ∧ sizedMet enc Tryz.checked.prog fn (OpenSpec.ofChange s) apart w args) (s.post enc Tryz.checked.prog fn apart fresh handsOn again) := by
  refine returnsInHanded_of_calls ownK started noInit witness ?_
  intro w tape i _ hsh _ hok hpre _
  obtain ⟨_, _, _, fn', hfn', _, _, _, _, hval⟩ := hok
  have e : fn' = fn := Option.some.inj (hfn'.symm.trans hfn)
  subst e
  obtain ⟨⟨⟨ds, gs, before, hw, _⟩, hl⟩, _⟩ := hpre
  have hw' := DataW.Whole.of_heap (w' := w.forCall tape i) (by rfl) hw
  refine (contract (w.forCall tape i) w.heap.size i.args ds gs before hval hw' (hl.of_heap (by rfl)) hsh).mono fun e W' ⟨v, he, hp⟩ => ?_
  subst he
  exact ChangeSpec.post_blind hp

section
variable {H : Type} {enc : TypeId × Value → H} {w : World} {base : Nat} {spare : Nat → Bool} {held : Bool}
theorem trodAll_four {P : Program} {t0 t1 t2 t3 : TypeId} {args : Array Value} {ds : List (DataW H)} {ps : List MemPlace} (h : DataW.TrodAll enc P w base spare held [t0, t1, t2, t3] args.toList ds ps) :
    ∃ v0 v1 v2 v3 d0 d1 d2 d3 p0 p1 p2 p3, args = #[v0, v1, v2, v3] ∧ ds = [d0, d1, d2, d3] ∧ ps = p0 ++ p1 ++ p2 ++ p3 ∧ DataW.Trod enc P w base spare held t0 v0 d0 p0 ∧ DataW.Trod enc P w base spare held t1 v1 d1 p1 ∧ DataW.Trod enc P w base spare held t2 v2 d2 p2 ∧ DataW.Trod enc P w base spare held t3 v3 d3 p3 := by
  obtain ⟨v0, vs0, d0, ds0, p0, q0, hargs, rfl, rfl, h0, h⟩ := trodAll_cons h
  obtain ⟨v1, vs1, d1, ds1, p1, q1, rfl, rfl, rfl, h1, h⟩ := trodAll_cons h
  obtain ⟨v2, vs2, d2, ds2, p2, q2, rfl, rfl, rfl, h2, h⟩ := trodAll_cons h
  obtain ⟨v3, vs3, d3, ds3, p3, q3, rfl, rfl, rfl, h3, h⟩ := trodAll_cons h
  obtain ⟨rfl, rfl, rfl⟩ := trodAll_nil h
  exact ⟨v0, v1, v2, v3, d0, d1, d2, d3, p0, p1, p2, p3, by cases args; simp_all, rfl, by simp, h0, h1, h2, h3⟩
theorem ba_list (s : ByteArray) : s = ⟨s.data.toList.toArray⟩ := by cases s; simp
theorem trod_i64 {P : Program} {t : TypeId} {k : IntKind} (ht : P.underlying t = some (.int k)) {fuel : Nat} {cs : List Value} {x : DataW H × List MemPlace} (h : DataW.trod enc P w base spare held fuel t cs = some x) : ∃ n, cs = [.int k n] ∧ (Lit.int k n).wf = true := by
  cases fuel with
  | zero => simp [DataW.trod] at h
  | succ m =>
    unfold DataW.trod at h
    rw [ht] at h
    split at h <;> simp_all
theorem trod_boo {P : Program} {t : TypeId} (ht : P.underlying t = some .bool) {fuel : Nat} {cs : List Value} {x : DataW H × List MemPlace} (h : DataW.trod enc P w base spare held fuel t cs = some x) : ∃ b, cs = [.bool b] := by
  cases fuel with
  | zero => simp [DataW.trod] at h
  | succ m =>
    unfold DataW.trod at h
    rw [ht] at h
    split at h <;> simp_all
set_option maxRecDepth 100000 in
theorem trod_str {P : Program} {t : TypeId} (ht : P.underlying t = some .string) {fuel : Nat} {cs : List Value} {x : DataW H × List MemPlace} (h : DataW.trod enc P w base spare held fuel t cs = some x) : ∃ l : List UInt8, cs = [(Value.string ⟨(l).toArray⟩)] ∧ l.length ≤ maxLen := by
  obtain ⟨s, rfl, _, hs⟩ := DataW.trod_string ht h
  refine ⟨s.data.toList, by rw [← ba_list], ?_⟩
  exact hs
set_option maxRecDepth 100000 in
/-- A host, read as data: three cells. -/
theorem open_host_cells {fuel : Nat} {cs : List Value} {x : DataW H × List MemPlace} (h : DataW.trod enc Tryz.prog w base spare held fuel 26 cs = some x) :
    ∃ hst : Gl.Host, cs = [(Value.string ⟨((hst).name).toArray⟩), (Value.bool (hst).v4), (Value.int .u32 ((hst).addr : Int))] ∧ hst.name.length ≤ maxLen ∧ hst.addr < 4294967296 := by
  obtain ⟨xs, n, _, _, hl, hlen, hf⟩ := DataW.trod_struct Tryz.underlying26 h
  rw [show (Tryz.prog).cellsOf 26 = 3 by kernel_rfl] at hl
  match cs, hl with
  | [c0, c1, c2], _ =>
    have f0 := hf 0 _ rfl
    have f1 := hf 1 _ rfl
    have f2 := hf 2 _ rfl
    simp only [show (Tryz.prog).cellsOf 9 = 1 by kernel_rfl, show (Tryz.prog).cellsOf 4 = 1 by kernel_rfl, show (Tryz.prog).cellsOf 24 = 1 by kernel_rfl, List.getElem_toArray, List.getElem_cons_zero, List.getElem_cons_succ, List.drop_zero, List.drop_succ_cons, List.take_succ_cons, List.take_zero] at f0 f1 f2
    have g : ∀ i : Nat, i < 3 → ∃ y, xs[i]? = some y := fun i hi => ⟨xs[i]'(by rw [hlen]; exact hi), List.getElem?_eq_getElem _⟩
    obtain ⟨y0, e0⟩ := g 0 (by decide)
    obtain ⟨y1, e1⟩ := g 1 (by decide)
    obtain ⟨y2, e2⟩ := g 2 (by decide)
    obtain ⟨l, h0, hs⟩ := trod_str Tryz.underlying9 (f0.trans e0)
    obtain ⟨b, h1⟩ := trod_boo Tryz.underlying4 (f1.trans e1)
    obtain ⟨k, h2, hk⟩ := trod_i64 Tryz.underlying24 (f2.trans e2)
    injection h0 with h0
    injection h1 with h1
    injection h2 with h2
    subst h0 h1 h2
    have hb := bounds_u32 hk
    refine ⟨{ name := l, v4 := b, addr := k.toNat }, ?_, hs, by show k.toNat < _; omega⟩
    rw [show ((k.toNat : Nat) : Int) = k by omega]
/-- A URL, read as data. -/
structure UrlFits (u : Gl.URL) : Prop where
  scheme : u.scheme.length ≤ maxLen
  name : u.host.name.length ≤ maxLen
  addr : u.host.addr < 4294967296
  port : -9223372036854775808 ≤ u.port ∧ u.port ≤ 9223372036854775807
  path : u.path.length ≤ maxLen
  query : u.query.length ≤ maxLen
  rest : u.rest.length ≤ maxLen
set_option maxRecDepth 100000 in
theorem open_url {v : Value} {d : DataW H} {p : List MemPlace} {r : Reach} {b0 : Nat} (hval : Value.okWide Tryz.prog w r b0 28 v) (hd : DataW.Trod enc Tryz.prog w base spare held 28 v d p) :
    ∃ u : Gl.URL, v = (Value.agg #[(Value.string ⟨((u).scheme).toArray⟩), (Value.string ⟨(((u).host).name).toArray⟩), (Value.bool ((u).host).v4), (Value.int .u32 (((u).host).addr : Int)), (Value.int .i64 (u).port), (Value.string ⟨((u).path).toArray⟩), (Value.bool (u).hasQuery), (Value.string ⟨((u).query).toArray⟩), (Value.string ⟨((u).rest).toArray⟩)]) ∧ UrlFits u := by
  unfold Value.okWide at hval
  rw [Tryz.underlying28] at hval
  obtain ⟨cs, rfl, hsz, _⟩ := hval
  obtain ⟨fuel, h⟩ := hd
  obtain ⟨xs, n, _, _, hl, hlen, hf⟩ := DataW.trod_struct Tryz.underlying28 h
  simp only [Value.cells] at hl hf
  obtain ⟨cs⟩ := cs
  simp only at hl hf
  rw [show (Tryz.prog).cellsOf 28 = 9 by kernel_rfl] at hl
  match cs, hl with
  | [c0, c1, c2, c3, c4, c5, c6, c7, c8], _ =>
    have f0 := hf 0 _ rfl
    have f1 := hf 1 _ rfl
    have f2 := hf 2 _ rfl
    have f3 := hf 3 _ rfl
    have f4 := hf 4 _ rfl
    have f5 := hf 5 _ rfl
    have f6 := hf 6 _ rfl
    simp only [show (Tryz.prog).cellsOf 9 = 1 by kernel_rfl, show (Tryz.prog).cellsOf 4 = 1 by kernel_rfl, show (Tryz.prog).cellsOf 3 = 1 by kernel_rfl, show (Tryz.prog).cellsOf 26 = 3 by kernel_rfl, List.getElem_toArray, List.getElem_cons_zero, List.getElem_cons_succ, List.drop_zero, List.drop_succ_cons, List.take_succ_cons, List.take_zero] at f0 f1 f2 f3 f4 f5 f6
    have g : ∀ i : Nat, i < 7 → ∃ y, xs[i]? = some y := fun i hi => ⟨xs[i]'(by rw [hlen]; exact hi), List.getElem?_eq_getElem _⟩
    obtain ⟨y0, e0⟩ := g 0 (by decide)
    obtain ⟨y1, e1⟩ := g 1 (by decide)
    obtain ⟨y2, e2⟩ := g 2 (by decide)
    obtain ⟨y3, e3⟩ := g 3 (by decide)
    obtain ⟨y4, e4⟩ := g 4 (by decide)
    obtain ⟨y5, e5⟩ := g 5 (by decide)
    obtain ⟨y6, e6⟩ := g 6 (by decide)
    obtain ⟨l0, h0, hs0⟩ := trod_str Tryz.underlying9 (f0.trans e0)
    obtain ⟨hst, h1, hs1, ha⟩ := open_host_cells (f1.trans e1)
    obtain ⟨k, h2, hk⟩ := trod_i64 Tryz.underlying3 (f2.trans e2)
    obtain ⟨l3, h3, hs3⟩ := trod_str Tryz.underlying9 (f3.trans e3)
    obtain ⟨b, h4⟩ := trod_boo Tryz.underlying4 (f4.trans e4)
    obtain ⟨l5, h5, hs5⟩ := trod_str Tryz.underlying9 (f5.trans e5)
    obtain ⟨l6, h6, hs6⟩ := trod_str Tryz.underlying9 (f6.trans e6)
    simp only [List.cons.injEq, and_true] at h0 h1 h2 h3 h4 h5 h6
    obtain ⟨h1a, h1b, h1c⟩ := h1
    subst h0 h1a h1b h1c h2 h3 h4 h5 h6
    have hb := bounds_i64 hk
    exact ⟨{ scheme := l0, host := hst, port := k, path := l3, hasQuery := b, query := l5, rest := l6 }, rfl, hs0, hs1, ha, hb, hs3, hs5, hs6⟩
end
end Go.Proofs.YtbafofldgkigmaaGreatDoor
