/- glacislaw13: hop, awake. -/
import Derived.Test.YtbafofldgkigmaaGreatDoorWalk13
namespace Go.Proofs.YtbafofldgkigmaaGreatDoor
open Go.RowKit
attribute [local irreducible] Calls
theorem Blk.at_ {w : World} {t : TypeId} {cs : Array Value} {g : Nat} (hg : g = w.heap.size) : Blk (w.alloc (Obj.cells cs t)) g t cs := by subst hg; exact Blk.new _ _ _
theorem Blk.thruX {W w1 : World} {t : TypeId} {cs : Array Value} {g : Nat} (h : Blk W g t cs) (hb : Below W.heap.size W w1) : Blk w1 g t cs := h.below hb h.lt
theorem Blk.newBeh (w : World) (o : Obj) (t : TypeId) (cs : Array Value) : Blk ((w.alloc o).alloc (Obj.cells cs t)) (w.heap.size + 1) t cs := Blk.at_ (by simp)
theorem bkx_ {p : Prop} (h : p := by repeat' first | (with_reducible assumption) | (with_reducible exact Blk.new _ _ _) | (with_reducible refine Blk.at_ ?_; (simp; done)) | (with_reducible refine Blk.far ?_ (sz_) _) | (with_reducible refine Blk.drew_ ?_) | (with_reducible refine Blk.alloc ?_ _) | (refine Blk.below ?_ (by assumption) (sz_))) : p := h
theorem hops_one {W : World} {g gH : Nat} {u : Gl.URL} {hd : Gl.Head} (hB : Blk W g 31 #[(Value.string ⟨((u).scheme).toArray⟩), (Value.string ⟨(((u).host).name).toArray⟩), (Value.bool ((u).host).v4), (Value.int .u32 (((u).host).addr : Int)), (Value.int .i64 (u).port), (Value.string ⟨((u).path).toArray⟩), (Value.bool (u).hasQuery), (Value.string ⟨((u).query).toArray⟩), (Value.string ⟨((u).rest).toArray⟩), .slice (some ⟨gH, 0, none⟩) 1 1]) (hH : Blk W gH 39 (hcells hd)) : Hops W (.slice (some ⟨g, 0, none⟩) 1 1) [⟨u, .slice (some ⟨gH, 0, none⟩) 1 1, [hd]⟩] := by
  refine ⟨⟨_, 1, rfl, Nat.le_refl _, by decide, fun _ => ⟨g, 0, rfl, hB.lt, fun j hj i hi => ?_⟩⟩, fun x hx => ?_⟩
  · obtain rfl : j = 0 := by simpa using hj
    rw [show 0 + 0 * 10 + i = i by omega, hB.cell]
    rfl
  · simp only [List.mem_singleton] at hx
    subst hx
    refine ⟨_, 1, rfl, Nat.le_refl _, by decide, fun _ => ⟨gH, 0, rfl, hH.lt, fun j hj i hi => ?_⟩⟩
    obtain rfl : j = 0 := by simpa using hj
    rw [show 0 + 0 * 2 + i = i by omega, hH.cell]
    rfl
theorem heads_one {W : World} {gH : Nat} {hd : Gl.Head} (hH : Blk W gH 39 (hcells hd)) : Heads W (.slice (some ⟨gH, 0, none⟩) 1 1) [hd] := by
  refine ⟨_, 1, rfl, Nat.le_refl _, by decide, fun _ => ⟨gH, 0, rfl, hH.lt, fun j hj i hi => ?_⟩⟩
  obtain rfl : j = 0 := by simpa using hj
  rw [show 0 + 0 * 2 + i = i by omega, hH.cell]
  rfl
set_option maxRecDepth 100000 in
set_option maxHeartbeats 4000000 in
theorem law13_hop (s nm v : List UInt8) (w : World) (hE : Env w) (hs : s.length ≤ 4294967280) :
    Calls Tryz.prog 59 #[(Value.string ⟨(s).toArray⟩), (Value.string ⟨(nm).toArray⟩), (Value.string ⟨(v).toArray⟩)] w (fun e w' => ∃ g, e = .returned (.agg #[(Value.string ⟨(((Gl.parse s).1).scheme).toArray⟩), (Value.string ⟨((((Gl.parse s).1).host).name).toArray⟩), (Value.bool (((Gl.parse s).1).host).v4), (Value.int .u32 ((((Gl.parse s).1).host).addr : Int)), (Value.int .i64 ((Gl.parse s).1).port), (Value.string ⟨(((Gl.parse s).1).path).toArray⟩), (Value.bool ((Gl.parse s).1).hasQuery), (Value.string ⟨(((Gl.parse s).1).query).toArray⟩), (Value.string ⟨(((Gl.parse s).1).rest).toArray⟩), .slice (some ⟨g, 0, none⟩) 1 1]) ∧ Blk w' g 39 #[(Value.string ⟨(nm).toArray⟩), (Value.string ⟨(v).toArray⟩)] ∧ Below w.heap.size w w' ∧ w.heap.size ≤ g) := by
  have hp := fun W (hW : Below w.heap.size w W) => urlp_parse s W hs (hE.below hW)
  generalize Gl.parse s = r at *
  obtain ⟨u, k⟩ := r
  simp only at hp ⊢
  replace hp := Lib.hid hp
  clear hs
  go_enter Tryz.func59, Tryz.ntmps59
  go_upto_region 1 with fail
  generalize hW0 : (w.alloc (Obj.cells #[(.string ⟨#[]⟩), (.string ⟨#[]⟩), (.bool false), (.int .u32 0), (.int .i64 0), (.string ⟨#[]⟩), (.bool false), (.string ⟨#[]⟩), (.string ⟨#[]⟩), (.slice none 0 0)] 31)) = W0
  have hw0 : Below w.heap.size w W0 := by rw [← hW0]; (exact bw_)
  have hBZ : Blk W0 (w.heap.size) 31 #[(.string ⟨#[]⟩), (.string ⟨#[]⟩), (.bool false), (.int .u32 0), (.int .i64 0), (.string ⟨#[]⟩), (.bool false), (.string ⟨#[]⟩), (.string ⟨#[]⟩), (.slice none 0 0)] := by rw [← hW0]; exact (Blk.new _ _ _)
  clear hW0
  have hwz := hw0.size
  have hZl := hBZ.lt
  have hZc := hBZ.cell
  have hZf := hBZ.frozen
  go_upto_region 1 with fail
  go_cut [7, 8] from 9 (fun x7 x8 w' => ∃ gC, x8 = .int .i64 k ∧ x7 = .pointer (some ⟨gC, 0, none⟩) ∧ Below w.heap.size w w' ∧ Blk w' (w.heap.size) 31 #[(.string ⟨#[]⟩), (.string ⟨#[]⟩), (.bool false), (.int .u32 0), (.int .i64 0), (.string ⟨#[]⟩), (.bool false), (.string ⟨#[]⟩), (.string ⟨#[]⟩), (.slice none 0 0)] ∧ Blk w' (gC) 28 #[(Value.string ⟨((u).scheme).toArray⟩), (Value.string ⟨(((u).host).name).toArray⟩), (Value.bool ((u).host).v4), (Value.int .u32 (((u).host).addr : Int)), (Value.int .i64 (u).port), (Value.string ⟨((u).path).toArray⟩), (Value.bool (u).hasQuery), (Value.string ⟨((u).query).toArray⟩), (Value.string ⟨((u).rest).toArray⟩)])
  case first =>
    go_wp2_with (go_at_call 19; refine (hp.out _ (bw_)).mono ?_; rintro e w1 ⟨rfl, hb⟩; obtain ⟨hc, hfz⟩ := bcell hb; have hz := hb.size; (try simp at hz); (try have hz0 := lt_ hb w.heap.size); (try have hz1 := lt_ hb (w.heap.size + 1)); (try have hz2 := lt_ hb (w.heap.size + 2)); (try have hz3 := lt_ hb (w.heap.size + 3)); (try have hcA := fun o => hc w.heap.size o sz_); (try have hcB := fun o => hc (w.heap.size + 1) o sz_); (try (have i := cf_ hb g; obtain ⟨hcGg, hfGg, hzGg⟩ := i)); (try (have i := cf_ hb gC; obtain ⟨hcGgC, hfGgC, hzGgC⟩ := i)))
    go_meet
    case rel =>
      exact ⟨_, rfl, rfl, bw_, bk_, bk_⟩
  case rest =>
  clear hw0 hwz hZl hZc hZf hBZ 
  obtain ⟨gC, rfl, rfl, hw0, hBZ, hBC⟩ := hcut
  have hwz := hw0.size
  have hZl := hBZ.lt
  have hZc := hBZ.cell
  have hZf := hBZ.frozen
  have hCl := hBC.lt
  have hCc := hBC.cell
  have hCf := hBC.frozen
  go_wp2_with fail
  refine bodyPost_ret (v := .agg #[(Value.string ⟨((u).scheme).toArray⟩), (Value.string ⟨(((u).host).name).toArray⟩), (Value.bool ((u).host).v4), (Value.int .u32 (((u).host).addr : Int)), (Value.int .i64 (u).port), (Value.string ⟨((u).path).toArray⟩), (Value.bool (u).hasQuery), (Value.string ⟨((u).query).toArray⟩), (Value.string ⟨((u).rest).toArray⟩), .slice (some ⟨wc.heap.size, 0, none⟩) 1 1]) (by simp only [results, Tryz.results59]; go_simp) rfl ⟨_, rfl, Blk.at_ (by simp), bw_, by omega⟩
def u13 (n : UInt8) (p : List UInt8) : Gl.URL := { scheme := [104, 116, 116, 112, 115], host := { name := [n] }, port := -1, path := p }
def o13 : Gl.Origin := { scheme := [104, 116, 116, 112, 115], host := { name := [97] }, port := 443 }
def t13 (s : List UInt8) : List UInt8 := [104, 116, 116, 112, 115, 58, 47, 47] ++ s
set_option maxRecDepth 100000 in
theorem parse13 : Gl.parse (t13 [97, 47]) = (u13 97 [47], 0) ∧ Gl.parse (t13 [97, 47, 120]) = (u13 97 [47, 120], 0) ∧ Gl.parse (t13 [98, 47, 120]) = (u13 98 [47, 120], 0) ∧ Gl.originOf (u13 97 [47]) 0 = o13 := by decide +kernel
def hd13a : Gl.Head := ⟨[120], []⟩
def hd13b : Gl.Head := ⟨[65, 99, 99, 101, 115, 115, 45, 67, 111, 110, 116, 114, 111, 108, 45, 65, 108, 108, 111, 119, 45, 79, 114, 105, 103, 105, 110], [42]⟩
def hd13c : Gl.Head := ⟨[120], [42]⟩
def hd13d : Gl.Head := ⟨acoT, [120]⟩
set_option maxRecDepth 100000 in
theorem walk13a (v : Value) : Gl.walk 3 1 0 o13 [⟨u13 97 [47, 120], v, [hd13a]⟩] = (⟨1, true, false⟩, 0) := by kernel_rfl
set_option maxRecDepth 100000 in
theorem walk13b (v : Value) : Gl.walk 3 1 0 o13 [⟨u13 98 [47, 120], v, [hd13b]⟩] = (⟨2, false, false⟩, 0) := by kernel_rfl
set_option maxRecDepth 100000 in
theorem walk13c (v : Value) : Gl.walk 3 1 0 o13 [⟨u13 98 [47, 120], v, [hd13c]⟩] = (⟨0, false, false⟩, 131) := by kernel_rfl
set_option maxRecDepth 100000 in
theorem shared13d : Gl.shared [hd13d] [120] false = true := by decide +kernel
theorem wide13 : OWide o13 := ⟨⟨by decide, by decide⟩, by decide, by decide⟩
theorem hopfit13 (u : Gl.URL) (v : Value) (hd : Gl.Head) (h1 : u.rest.length ≤ 3000) (h2 : HeadFit hd) : ∀ h ∈ ([⟨u, v, [hd]⟩] : List Gl.Hop), (∀ x ∈ h.head, HeadFit x) ∧ h.head.length ≤ 1000000 ∧ h.url.rest.length ≤ 3000 := by
  intro h hh
  simp only [List.mem_singleton] at hh
  subst hh
  refine ⟨fun x hx => ?_, by simp, h1⟩
  simp only [List.mem_singleton] at hx
  subst hx
  exact h2
set_option maxHeartbeats 40000000 in
set_option maxRecDepth 100000 in
theorem awake13 (w : World) (hE : Env w) : Calls Tryz.prog 22 #[] w (Ret w (.bool true)) := by
  have hA := fun W (hW : Below w.heap.size w W) => urlp_parse (t13 [97, 47]) W (by decide) (hE.below hW)
  have hO := fun W (hW : Below w.heap.size w W) => origin_of (u13 97 [47]) 0 W (hE.below hW) (by decide)
  have hH1 := fun W (hW : Below w.heap.size w W) => law13_hop (t13 [97, 47, 120]) [120] [] W (hE.below hW) (by decide)
  have hH2 := fun W (hW : Below w.heap.size w W) => law13_hop (t13 [98, 47, 120]) [65, 99, 99, 101, 115, 115, 45, 67, 111, 110, 116, 114, 111, 108, 45, 65, 108, 108, 111, 119, 45, 79, 114, 105, 103, 105, 110] [42] W (hE.below hW) (by decide)
  have hH3 := fun W (hW : Below w.heap.size w W) => law13_hop (t13 [98, 47, 120]) [120] [42] W (hE.below hW) (by decide)
  rw [parse13.1] at hA
  rw [parse13.2.2.2] at hO
  rw [parse13.2.1] at hH1
  rw [parse13.2.2.1] at hH2 hH3
  simp only [t13, u13, o13, List.cons_append, List.nil_append] at hA hO hH1 hH2 hH3
  have hWa : ∀ g gH W, Below w.heap.size w W → Blk W g 31 #[.string ⟨#[104, 116, 116, 112, 115]⟩, .string ⟨#[97]⟩, .bool false, .int .u32 0, .int .i64 (-1), .string ⟨#[47, 120]⟩, .bool false, .string ⟨#[]⟩, .string ⟨#[]⟩, .slice (some ⟨gH, 0, none⟩) 1 1] → Blk W gH 39 #[.string ⟨#[120]⟩, .string ⟨#[]⟩] → Calls Tryz.prog 27 #[.agg #[.int .i64 3, .int .i64 1, .bool false, .int .i64 0, .string ⟨#[104, 116, 116, 112, 115]⟩, .string ⟨#[97]⟩, .bool false, .int .u32 0, .int .i64 443, .int .i64 0], .slice (some ⟨g, 0, none⟩) 1 1] W (Ret W (.tuple #[.agg #[.int .i64 1, .bool true, .bool false], .int .i64 0])) := fun g gH W hW hB hH => by
    have := taint_walk 3 1 0 o13 _ [⟨u13 97 [47, 120], .slice (some ⟨gH, 0, none⟩) 1 1, [hd13a]⟩] W (hE.below hW) wide13 (hops_one (u := u13 97 [47, 120]) (hd := hd13a) hB hH) (hopfit13 _ _ _ (by decide) ⟨by decide, by decide⟩) (by simp)
    rw [walk13a] at this
    exact this
  have hWb : ∀ g gH W, Below w.heap.size w W → Blk W g 31 #[.string ⟨#[104, 116, 116, 112, 115]⟩, .string ⟨#[98]⟩, .bool false, .int .u32 0, .int .i64 (-1), .string ⟨#[47, 120]⟩, .bool false, .string ⟨#[]⟩, .string ⟨#[]⟩, .slice (some ⟨gH, 0, none⟩) 1 1] → Blk W gH 39 #[.string ⟨#[65, 99, 99, 101, 115, 115, 45, 67, 111, 110, 116, 114, 111, 108, 45, 65, 108, 108, 111, 119, 45, 79, 114, 105, 103, 105, 110]⟩, .string ⟨#[42]⟩] → Calls Tryz.prog 27 #[.agg #[.int .i64 3, .int .i64 1, .bool false, .int .i64 0, .string ⟨#[104, 116, 116, 112, 115]⟩, .string ⟨#[97]⟩, .bool false, .int .u32 0, .int .i64 443, .int .i64 0], .slice (some ⟨g, 0, none⟩) 1 1] W (Ret W (.tuple #[.agg #[.int .i64 2, .bool false, .bool false], .int .i64 0])) := fun g gH W hW hB hH => by
    have := taint_walk 3 1 0 o13 _ [⟨u13 98 [47, 120], .slice (some ⟨gH, 0, none⟩) 1 1, [hd13b]⟩] W (hE.below hW) wide13 (hops_one (u := u13 98 [47, 120]) (hd := hd13b) hB hH) (hopfit13 _ _ _ (by decide) ⟨by decide, by decide⟩) (by simp)
    rw [walk13b] at this
    exact this
  have hWc : ∀ g gH W, Below w.heap.size w W → Blk W g 31 #[.string ⟨#[104, 116, 116, 112, 115]⟩, .string ⟨#[98]⟩, .bool false, .int .u32 0, .int .i64 (-1), .string ⟨#[47, 120]⟩, .bool false, .string ⟨#[]⟩, .string ⟨#[]⟩, .slice (some ⟨gH, 0, none⟩) 1 1] → Blk W gH 39 #[.string ⟨#[120]⟩, .string ⟨#[42]⟩] → Calls Tryz.prog 27 #[.agg #[.int .i64 3, .int .i64 1, .bool false, .int .i64 0, .string ⟨#[104, 116, 116, 112, 115]⟩, .string ⟨#[97]⟩, .bool false, .int .u32 0, .int .i64 443, .int .i64 0], .slice (some ⟨g, 0, none⟩) 1 1] W (Ret W (.tuple #[.agg #[.int .i64 0, .bool false, .bool false], .int .i64 131])) := fun g gH W hW hB hH => by
    have := taint_walk 3 1 0 o13 _ [⟨u13 98 [47, 120], .slice (some ⟨gH, 0, none⟩) 1 1, [hd13c]⟩] W (hE.below hW) wide13 (hops_one (u := u13 98 [47, 120]) (hd := hd13c) hB hH) (hopfit13 _ _ _ (by decide) ⟨by decide, by decide⟩) (by simp)
    rw [walk13c] at this
    exact this
  have hWd : ∀ W, Below w.heap.size w W → Calls Tryz.prog 27 #[.agg #[.int .i64 3, .int .i64 1, .bool false, .int .i64 0, .string ⟨#[104, 116, 116, 112, 115]⟩, .string ⟨#[97]⟩, .bool false, .int .u32 0, .int .i64 443, .int .i64 0], .slice none 0 0] W (Ret W (.tuple #[.agg #[.int .i64 0, .bool false, .bool false], .int .i64 130])) := fun W hW => by
    have := taint_walk 3 1 0 o13 (.slice none 0 0) [] W (hE.below hW) wide13 ⟨Slots.empty W 10, fun x hx => by cases hx⟩ (fun x hx => by cases hx) (by decide)
    exact this
  have hS : ∀ gH W, Below w.heap.size w W → Blk W gH 39 #[.string ⟨#[97, 99, 99, 101, 115, 115, 45, 99, 111, 110, 116, 114, 111, 108, 45, 97, 108, 108, 111, 119, 45, 111, 114, 105, 103, 105, 110]⟩, .string ⟨#[120]⟩] → Calls Tryz.prog 24 #[.slice (some ⟨gH, 0, none⟩) 1 1, .string ⟨#[120]⟩, .bool false] W (Ret W (.bool true)) := fun gH W hW hH => by
    have := taint_shared _ [hd13d] [120] false W (heads_one (hd := hd13d) hH) (fun x hx => by simp only [List.mem_singleton] at hx; subst hx; exact ⟨by decide, by decide⟩) (by decide)
    rw [shared13d] at this
    exact this
  replace hA := Lib.hid hA
  replace hO := Lib.hid hO
  replace hH1 := Lib.hid hH1
  replace hH2 := Lib.hid hH2
  replace hH3 := Lib.hid hH3
  replace hWa := Lib.hid hWa
  replace hWb := Lib.hid hWb
  replace hWc := Lib.hid hWc
  replace hWd := Lib.hid hWd
  replace hS := Lib.hid hS
  go_enter Tryz.func22, Tryz.ntmps22
  have hw0 := Below.refl w.heap.size w
  have hwz := hw0.size
  go_upto_region 1 with fail
  go_cut [1, 2] from 12 (fun x1 x2 w' => ∃ gV, x2 = .int .i64 0 ∧ x1 = .pointer (some ⟨gV, 0, none⟩) ∧ Below w.heap.size w w' ∧ Blk w' (gV) 28 #[.string ⟨#[104, 116, 116, 112, 115]⟩, .string ⟨#[97]⟩, .bool false, .int .u32 0, .int .i64 (-1), .string ⟨#[47]⟩, .bool false, .string ⟨#[]⟩, .string ⟨#[]⟩])
  case first =>
    go_wp2_with (go_at_call 19; refine (hA.out _ (bw_)).mono ?_; rintro e w1 ⟨rfl, hb⟩; obtain ⟨hc, hfz⟩ := bcell hb; have hz := hb.size; (try simp at hz); (try have hz0 := lt_ hb w.heap.size); (try have hz1 := lt_ hb (w.heap.size + 1)); (try have hz2 := lt_ hb (w.heap.size + 2)); (try have hz3 := lt_ hb (w.heap.size + 3)); (try have hcA := fun o => hc w.heap.size o sz_); (try have hcB := fun o => hc (w.heap.size + 1) o sz_); (try (have i := cf_ hb g; obtain ⟨hcGg, hfGg, hzGg⟩ := i)); (try (have i := cf_ hb gA; obtain ⟨hcGgA, hfGgA, hzGgA⟩ := i)); (try (have i := cf_ hb gB; obtain ⟨hcGgB, hfGgB, hzGgB⟩ := i)); (try (have i := cf_ hb gC; obtain ⟨hcGgC, hfGgC, hzGgC⟩ := i)); (try (have i := cf_ hb gD; obtain ⟨hcGgD, hfGgD, hzGgD⟩ := i)); (try (have i := cf_ hb gE; obtain ⟨hcGgE, hfGgE, hzGgE⟩ := i)); (try (have i := cf_ hb gF; obtain ⟨hcGgF, hfGgF, hzGgF⟩ := i)); (try (have i := cf_ hb gV; obtain ⟨hcGgV, hfGgV, hzGgV⟩ := i)))
    go_meet
    case rel =>
      exact ⟨_, rfl, rfl, bw_, bkx_⟩
  case rest =>
  clear hw0 hwz   
  obtain ⟨gV, rfl, rfl, hw0, hBV⟩ := hcut
  have hwz := hw0.size
  have hVl := hBV.lt
  have hVc := hBV.cell
  have hVf := hBV.frozen
  go_upto_region 2 with fail
  go_cut [3] from 12 (fun x3 w' => ∃ gA, x3 = .pointer (some ⟨gA, 0, none⟩) ∧ Below w.heap.size w w' ∧ Blk w' (gA) 54 #[.int .i64 3, .int .i64 1, .bool false, .int .i64 0, .string ⟨#[104, 116, 116, 112, 115]⟩, .string ⟨#[97]⟩, .bool false, .int .u32 0, .int .i64 443, .int .i64 0])
  case first =>
    go_wp2_with (go_at_call 15; refine (hO.out _ (bw_)).mono ?_; rintro e w1 ⟨rfl, hb⟩; obtain ⟨hc, hfz⟩ := bcell hb; have hz := hb.size; (try simp at hz); (try have hz0 := lt_ hb w.heap.size); (try have hz1 := lt_ hb (w.heap.size + 1)); (try have hz2 := lt_ hb (w.heap.size + 2)); (try have hz3 := lt_ hb (w.heap.size + 3)); (try have hcA := fun o => hc w.heap.size o sz_); (try have hcB := fun o => hc (w.heap.size + 1) o sz_); (try (have i := cf_ hb g; obtain ⟨hcGg, hfGg, hzGg⟩ := i)); (try (have i := cf_ hb gA; obtain ⟨hcGgA, hfGgA, hzGgA⟩ := i)); (try (have i := cf_ hb gB; obtain ⟨hcGgB, hfGgB, hzGgB⟩ := i)); (try (have i := cf_ hb gC; obtain ⟨hcGgC, hfGgC, hzGgC⟩ := i)); (try (have i := cf_ hb gD; obtain ⟨hcGgD, hfGgD, hzGgD⟩ := i)); (try (have i := cf_ hb gE; obtain ⟨hcGgE, hfGgE, hzGgE⟩ := i)); (try (have i := cf_ hb gF; obtain ⟨hcGgF, hfGgF, hzGgF⟩ := i)); (try (have i := cf_ hb gV; obtain ⟨hcGgV, hfGgV, hzGgV⟩ := i)))
    go_meet
    case rel =>
      exact ⟨_, rfl, bw_, bkx_⟩
  case rest =>
  clear hw0 hwz hVl hVc hVf hBV 
  obtain ⟨gA, rfl, hw0, hBA⟩ := hcut
  have hwz := hw0.size
  have hAl := hBA.lt
  have hAc := hBA.cell
  have hAf := hBA.frozen
  go_upto_region 3 with fail
  go_cut [4, 5] from 12 (fun x4 x5 w' => ∃ gB, x5 = .int .i64 0 ∧ x4 = .pointer (some ⟨gB, 0, none⟩) ∧ Below w.heap.size w w' ∧ Blk w' (gA) 54 #[.int .i64 3, .int .i64 1, .bool false, .int .i64 0, .string ⟨#[104, 116, 116, 112, 115]⟩, .string ⟨#[97]⟩, .bool false, .int .u32 0, .int .i64 443, .int .i64 0] ∧ Blk w' (gB) 58 #[.int .i64 1, .bool true, .bool false])
  case first =>
    go_region_held3 (fun W => Below w.heap.size w W ∧ w.heap.size ≤ W.heap.size ∧ gA < W.heap.size ∧ (∀ n0, W.cell? ⟨gA, n0, none⟩ = (#[.int .i64 3, .int .i64 1, .bool false, .int .i64 0, .string ⟨#[104, 116, 116, 112, 115]⟩, .string ⟨#[97]⟩, .bool false, .int .u32 0, .int .i64 443, .int .i64 0] : Array Value)[n0]?)) ((refine ⟨bw_, by first | omega | (simp; omega), by first | omega | (simp; omega), by exact Blk.cell (t := 54) (bkx_)⟩)) (first | (go_at_call 59; refine (hH1.out _ (bw_)).mono ?_; rintro e wH ⟨gD, rfl, hBD, hb0, hgD⟩; have hDl := hBD.lt; have hb := hb0; obtain ⟨hc, hfz⟩ := bcell hb; have hz := hb.size; (try simp at hz); (try (have i := cf_ hb gA; obtain ⟨hcGgA, hfGgA, hzGgA⟩ := i)); (try (have i := cf_ hb gB; obtain ⟨hcGgB, hfGgB, hzGgB⟩ := i)); (try (have i := cf_ hb gC; obtain ⟨hcGgC, hfGgC, hzGgC⟩ := i)); (try (have i := cf_ hb gE; obtain ⟨hcGgE, hfGgE, hzGgE⟩ := i)); (first | (with_reducible have hBY := Blk.thruX (Blk.drew_ (Blk.new wc 58 #[.int .i64 0, .bool false, .bool false])) hb0; have hYc := hBY.cell; have hYf := hBY.frozen; have hYl := hBY.lt) | skip)) | ((go_at_call 27; refine (hWa.out _ _ _ (bw_) (bkx_) (bkx_)).mono ?_; rintro e w1 ⟨rfl, hb⟩; obtain ⟨hc, hfz⟩ := bcell hb; have hz := hb.size; (try simp at hz); (try have hz0 := lt_ hb w.heap.size); (try have hz1 := lt_ hb (w.heap.size + 1)); (try have hz2 := lt_ hb (w.heap.size + 2)); (try have hz3 := lt_ hb (w.heap.size + 3)); (try have hcA := fun o => hc w.heap.size o sz_); (try have hcB := fun o => hc (w.heap.size + 1) o sz_); (try (have i := cf_ hb g; obtain ⟨hcGg, hfGg, hzGg⟩ := i)); (try (have i := cf_ hb gA; obtain ⟨hcGgA, hfGgA, hzGgA⟩ := i)); (try (have i := cf_ hb gB; obtain ⟨hcGgB, hfGgB, hzGgB⟩ := i)); (try (have i := cf_ hb gC; obtain ⟨hcGgC, hfGgC, hzGgC⟩ := i)); (try (have i := cf_ hb gD; obtain ⟨hcGgD, hfGgD, hzGgD⟩ := i)); (try (have i := cf_ hb gE; obtain ⟨hcGgE, hfGgE, hzGgE⟩ := i)); (try (have i := cf_ hb gF; obtain ⟨hcGgF, hfGgF, hzGgF⟩ := i)); (try (have i := cf_ hb gV; obtain ⟨hcGgV, hfGgV, hzGgV⟩ := i))); (first | (with_reducible have hBX := Blk.thruX (Blk.newBeh wH _ 58 #[.int .i64 0, .bool false, .bool false]) hb; have hXc := hBX.cell; have hXf := hBX.frozen; have hXl := hBX.lt) | skip); (first | (with_reducible have hBZ := Blk.thruX (Blk.alloc (Blk.new wH 58 #[.int .i64 0, .bool false, .bool false]) _) hb; have hZc := hBZ.cell; have hZf := hBZ.frozen; have hZl := hBZ.lt) | skip); (first | (with_reducible have hBY := Blk.thruX (Blk.alloc hBY _) hb; have hYc := hBY.cell; have hYf := hBY.frozen; have hYl := hBY.lt) | skip)))
    all_goals go_wp2_with fail
    all_goals go_meet
    all_goals first | exact ⟨_, rfl, rfl, bw_, bkx_, by exact ((Blk.set_ (t := 58) (cs := #[.int .i64 0, .bool false, .bool false]) hBX 0 (.int .i64 1)).set_ 1 (.bool true)).set_ 2 (.bool false)⟩ | exact ⟨_, rfl, rfl, bw_, bkx_, by exact ((Blk.set_ (t := 58) (cs := #[.int .i64 0, .bool false, .bool false]) hBZ 0 (.int .i64 1)).set_ 1 (.bool true)).set_ 2 (.bool false)⟩ | exact ⟨_, rfl, rfl, bw_, bkx_, by exact ((Blk.set_ (t := 58) (cs := #[.int .i64 0, .bool false, .bool false]) hBY 0 (.int .i64 1)).set_ 1 (.bool true)).set_ 2 (.bool false)⟩ | exact ⟨_, rfl, rfl, bw_, bkx_, by exact ((Blk.set_ (t := 58) (cs := #[.int .i64 0, .bool false, .bool false]) (bkx_) 0 (.int .i64 1)).set_ 1 (.bool true)).set_ 2 (.bool false)⟩ | exact ⟨_, rfl, rfl, bw_, bkx_, bkx_⟩
  case rest =>
  clear hw0 hwz hAl hAc hAf hBA 
  obtain ⟨gB, rfl, rfl, hw0, hBA, hBB⟩ := hcut
  have hwz := hw0.size
  have hAl := hBA.lt
  have hAc := hBA.cell
  have hAf := hBA.frozen
  have hBl := hBB.lt
  have hBc := hBB.cell
  have hBf := hBB.frozen
  go_upto_region 4 with fail
  go_cut [6, 7] from 12 (fun x6 x7 w' => ∃ gC, x7 = .int .i64 0 ∧ x6 = .pointer (some ⟨gC, 0, none⟩) ∧ Below w.heap.size w w' ∧ Blk w' (gA) 54 #[.int .i64 3, .int .i64 1, .bool false, .int .i64 0, .string ⟨#[104, 116, 116, 112, 115]⟩, .string ⟨#[97]⟩, .bool false, .int .u32 0, .int .i64 443, .int .i64 0] ∧ Blk w' (gB) 58 #[.int .i64 1, .bool true, .bool false] ∧ Blk w' (gC) 58 #[.int .i64 2, .bool false, .bool false])
  case first =>
    go_region_held3 (fun W => Below w.heap.size w W ∧ w.heap.size ≤ W.heap.size ∧ gA < W.heap.size ∧ gB < W.heap.size ∧ (∀ n0, W.cell? ⟨gA, n0, none⟩ = (#[.int .i64 3, .int .i64 1, .bool false, .int .i64 0, .string ⟨#[104, 116, 116, 112, 115]⟩, .string ⟨#[97]⟩, .bool false, .int .u32 0, .int .i64 443, .int .i64 0] : Array Value)[n0]?) ∧ (∀ n0, W.cell? ⟨gB, n0, none⟩ = (#[.int .i64 1, .bool true, .bool false] : Array Value)[n0]?)) ((refine ⟨bw_, by first | omega | (simp; omega), by first | omega | (simp; omega), by first | omega | (simp; omega), by exact Blk.cell (t := 54) (bkx_), by exact Blk.cell (t := 58) (bkx_)⟩)) (first | (go_at_call 59; refine (hH2.out _ (bw_)).mono ?_; rintro e wH ⟨gD, rfl, hBD, hb0, hgD⟩; have hDl := hBD.lt; have hb := hb0; obtain ⟨hc, hfz⟩ := bcell hb; have hz := hb.size; (try simp at hz); (try (have i := cf_ hb gA; obtain ⟨hcGgA, hfGgA, hzGgA⟩ := i)); (try (have i := cf_ hb gB; obtain ⟨hcGgB, hfGgB, hzGgB⟩ := i)); (try (have i := cf_ hb gC; obtain ⟨hcGgC, hfGgC, hzGgC⟩ := i)); (try (have i := cf_ hb gE; obtain ⟨hcGgE, hfGgE, hzGgE⟩ := i)); (first | (with_reducible have hBY := Blk.thruX (Blk.drew_ (Blk.new wc 58 #[.int .i64 0, .bool false, .bool false])) hb0; have hYc := hBY.cell; have hYf := hBY.frozen; have hYl := hBY.lt) | skip)) | ((go_at_call 27; refine (hWb.out _ _ _ (bw_) (bkx_) (bkx_)).mono ?_; rintro e w1 ⟨rfl, hb⟩; obtain ⟨hc, hfz⟩ := bcell hb; have hz := hb.size; (try simp at hz); (try have hz0 := lt_ hb w.heap.size); (try have hz1 := lt_ hb (w.heap.size + 1)); (try have hz2 := lt_ hb (w.heap.size + 2)); (try have hz3 := lt_ hb (w.heap.size + 3)); (try have hcA := fun o => hc w.heap.size o sz_); (try have hcB := fun o => hc (w.heap.size + 1) o sz_); (try (have i := cf_ hb g; obtain ⟨hcGg, hfGg, hzGg⟩ := i)); (try (have i := cf_ hb gA; obtain ⟨hcGgA, hfGgA, hzGgA⟩ := i)); (try (have i := cf_ hb gB; obtain ⟨hcGgB, hfGgB, hzGgB⟩ := i)); (try (have i := cf_ hb gC; obtain ⟨hcGgC, hfGgC, hzGgC⟩ := i)); (try (have i := cf_ hb gD; obtain ⟨hcGgD, hfGgD, hzGgD⟩ := i)); (try (have i := cf_ hb gE; obtain ⟨hcGgE, hfGgE, hzGgE⟩ := i)); (try (have i := cf_ hb gF; obtain ⟨hcGgF, hfGgF, hzGgF⟩ := i)); (try (have i := cf_ hb gV; obtain ⟨hcGgV, hfGgV, hzGgV⟩ := i))); (first | (with_reducible have hBX := Blk.thruX (Blk.newBeh wH _ 58 #[.int .i64 0, .bool false, .bool false]) hb; have hXc := hBX.cell; have hXf := hBX.frozen; have hXl := hBX.lt) | skip); (first | (with_reducible have hBZ := Blk.thruX (Blk.alloc (Blk.new wH 58 #[.int .i64 0, .bool false, .bool false]) _) hb; have hZc := hBZ.cell; have hZf := hBZ.frozen; have hZl := hBZ.lt) | skip); (first | (with_reducible have hBY := Blk.thruX (Blk.alloc hBY _) hb; have hYc := hBY.cell; have hYf := hBY.frozen; have hYl := hBY.lt) | skip)))
    all_goals go_wp2_with fail
    all_goals go_meet
    all_goals first | exact ⟨_, rfl, rfl, bw_, bkx_, bkx_, by exact ((Blk.set_ (t := 58) (cs := #[.int .i64 0, .bool false, .bool false]) hBX 0 (.int .i64 2)).set_ 1 (.bool false)).set_ 2 (.bool false)⟩ | exact ⟨_, rfl, rfl, bw_, bkx_, bkx_, by exact ((Blk.set_ (t := 58) (cs := #[.int .i64 0, .bool false, .bool false]) hBZ 0 (.int .i64 2)).set_ 1 (.bool false)).set_ 2 (.bool false)⟩ | exact ⟨_, rfl, rfl, bw_, bkx_, bkx_, by exact ((Blk.set_ (t := 58) (cs := #[.int .i64 0, .bool false, .bool false]) hBY 0 (.int .i64 2)).set_ 1 (.bool false)).set_ 2 (.bool false)⟩ | exact ⟨_, rfl, rfl, bw_, bkx_, bkx_, by exact ((Blk.set_ (t := 58) (cs := #[.int .i64 0, .bool false, .bool false]) (bkx_) 0 (.int .i64 2)).set_ 1 (.bool false)).set_ 2 (.bool false)⟩ | exact ⟨_, rfl, rfl, bw_, bkx_, bkx_, bkx_⟩
  case rest =>
  clear hw0 hwz hAl hAc hAf hBl hBc hBf hBA hBB 
  obtain ⟨gC, rfl, rfl, hw0, hBA, hBB, hBC⟩ := hcut
  have hwz := hw0.size
  have hAl := hBA.lt
  have hAc := hBA.cell
  have hAf := hBA.frozen
  have hBl := hBB.lt
  have hBc := hBB.cell
  have hBf := hBB.frozen
  have hCl := hBC.lt
  have hCc := hBC.cell
  have hCf := hBC.frozen
  go_upto_region 5 with fail
  go_cut [8, 9] from 12 (fun x8 x9 w' => ∃ gE, x9 = .int .i64 131 ∧ x8 = .pointer (some ⟨gE, 0, none⟩) ∧ Below w.heap.size w w' ∧ Blk w' (gA) 54 #[.int .i64 3, .int .i64 1, .bool false, .int .i64 0, .string ⟨#[104, 116, 116, 112, 115]⟩, .string ⟨#[97]⟩, .bool false, .int .u32 0, .int .i64 443, .int .i64 0] ∧ Blk w' (gB) 58 #[.int .i64 1, .bool true, .bool false] ∧ Blk w' (gC) 58 #[.int .i64 2, .bool false, .bool false] ∧ Blk w' (gE) 58 #[.int .i64 0, .bool false, .bool false])
  case first =>
    go_region_held3 (fun W => Below w.heap.size w W ∧ w.heap.size ≤ W.heap.size ∧ gA < W.heap.size ∧ gB < W.heap.size ∧ gC < W.heap.size ∧ (∀ n0, W.cell? ⟨gA, n0, none⟩ = (#[.int .i64 3, .int .i64 1, .bool false, .int .i64 0, .string ⟨#[104, 116, 116, 112, 115]⟩, .string ⟨#[97]⟩, .bool false, .int .u32 0, .int .i64 443, .int .i64 0] : Array Value)[n0]?) ∧ (∀ n0, W.cell? ⟨gB, n0, none⟩ = (#[.int .i64 1, .bool true, .bool false] : Array Value)[n0]?) ∧ (∀ n0, W.cell? ⟨gC, n0, none⟩ = (#[.int .i64 2, .bool false, .bool false] : Array Value)[n0]?)) ((refine ⟨bw_, by first | omega | (simp; omega), by first | omega | (simp; omega), by first | omega | (simp; omega), by first | omega | (simp; omega), by exact Blk.cell (t := 54) (bkx_), by exact Blk.cell (t := 58) (bkx_), by exact Blk.cell (t := 58) (bkx_)⟩)) (first | (go_at_call 59; refine (hH3.out _ (bw_)).mono ?_; rintro e wH ⟨gD, rfl, hBD, hb0, hgD⟩; have hDl := hBD.lt; have hb := hb0; obtain ⟨hc, hfz⟩ := bcell hb; have hz := hb.size; (try simp at hz); (try (have i := cf_ hb gA; obtain ⟨hcGgA, hfGgA, hzGgA⟩ := i)); (try (have i := cf_ hb gB; obtain ⟨hcGgB, hfGgB, hzGgB⟩ := i)); (try (have i := cf_ hb gC; obtain ⟨hcGgC, hfGgC, hzGgC⟩ := i)); (try (have i := cf_ hb gE; obtain ⟨hcGgE, hfGgE, hzGgE⟩ := i)); (first | (with_reducible have hBY := Blk.thruX (Blk.drew_ (Blk.new wc 58 #[.int .i64 0, .bool false, .bool false])) hb0; have hYc := hBY.cell; have hYf := hBY.frozen; have hYl := hBY.lt) | skip)) | ((go_at_call 27; refine (hWc.out _ _ _ (bw_) (bkx_) (bkx_)).mono ?_; rintro e w1 ⟨rfl, hb⟩; obtain ⟨hc, hfz⟩ := bcell hb; have hz := hb.size; (try simp at hz); (try have hz0 := lt_ hb w.heap.size); (try have hz1 := lt_ hb (w.heap.size + 1)); (try have hz2 := lt_ hb (w.heap.size + 2)); (try have hz3 := lt_ hb (w.heap.size + 3)); (try have hcA := fun o => hc w.heap.size o sz_); (try have hcB := fun o => hc (w.heap.size + 1) o sz_); (try (have i := cf_ hb g; obtain ⟨hcGg, hfGg, hzGg⟩ := i)); (try (have i := cf_ hb gA; obtain ⟨hcGgA, hfGgA, hzGgA⟩ := i)); (try (have i := cf_ hb gB; obtain ⟨hcGgB, hfGgB, hzGgB⟩ := i)); (try (have i := cf_ hb gC; obtain ⟨hcGgC, hfGgC, hzGgC⟩ := i)); (try (have i := cf_ hb gD; obtain ⟨hcGgD, hfGgD, hzGgD⟩ := i)); (try (have i := cf_ hb gE; obtain ⟨hcGgE, hfGgE, hzGgE⟩ := i)); (try (have i := cf_ hb gF; obtain ⟨hcGgF, hfGgF, hzGgF⟩ := i)); (try (have i := cf_ hb gV; obtain ⟨hcGgV, hfGgV, hzGgV⟩ := i))); (first | (with_reducible have hBX := Blk.thruX (Blk.newBeh wH _ 58 #[.int .i64 0, .bool false, .bool false]) hb; have hXc := hBX.cell; have hXf := hBX.frozen; have hXl := hBX.lt) | skip); (first | (with_reducible have hBZ := Blk.thruX (Blk.alloc (Blk.new wH 58 #[.int .i64 0, .bool false, .bool false]) _) hb; have hZc := hBZ.cell; have hZf := hBZ.frozen; have hZl := hBZ.lt) | skip); (first | (with_reducible have hBY := Blk.thruX (Blk.alloc hBY _) hb; have hYc := hBY.cell; have hYf := hBY.frozen; have hYl := hBY.lt) | skip)))
    all_goals go_wp2_with fail
    all_goals go_meet
    all_goals first | exact ⟨_, rfl, rfl, bw_, bkx_, bkx_, bkx_, by exact ((Blk.set_ (t := 58) (cs := #[.int .i64 0, .bool false, .bool false]) hBX 0 (.int .i64 0)).set_ 1 (.bool false)).set_ 2 (.bool false)⟩ | exact ⟨_, rfl, rfl, bw_, bkx_, bkx_, bkx_, by exact ((Blk.set_ (t := 58) (cs := #[.int .i64 0, .bool false, .bool false]) hBZ 0 (.int .i64 0)).set_ 1 (.bool false)).set_ 2 (.bool false)⟩ | exact ⟨_, rfl, rfl, bw_, bkx_, bkx_, bkx_, by exact ((Blk.set_ (t := 58) (cs := #[.int .i64 0, .bool false, .bool false]) hBY 0 (.int .i64 0)).set_ 1 (.bool false)).set_ 2 (.bool false)⟩ | exact ⟨_, rfl, rfl, bw_, bkx_, bkx_, bkx_, by exact ((Blk.set_ (t := 58) (cs := #[.int .i64 0, .bool false, .bool false]) (bkx_) 0 (.int .i64 0)).set_ 1 (.bool false)).set_ 2 (.bool false)⟩ | exact ⟨_, rfl, rfl, bw_, bkx_, bkx_, bkx_, bkx_⟩
  case rest =>
  clear hw0 hwz hAl hAc hAf hBl hBc hBf hCl hCc hCf hBA hBB hBC 
  obtain ⟨gE, rfl, rfl, hw0, hBA, hBB, hBC, hBE⟩ := hcut
  have hwz := hw0.size
  have hAl := hBA.lt
  have hAc := hBA.cell
  have hAf := hBA.frozen
  have hBl := hBB.lt
  have hBc := hBB.cell
  have hBf := hBB.frozen
  have hCl := hBC.lt
  have hCc := hBC.cell
  have hCf := hBC.frozen
  have hEl := hBE.lt
  have hEc := hBE.cell
  have hEf := hBE.frozen
  go_upto_region 6 with fail
  go_cut [10, 11] from 12 (fun x10 x11 w' => ∃ gF, x11 = .int .i64 130 ∧ x10 = .pointer (some ⟨gF, 0, none⟩) ∧ Below w.heap.size w w' ∧ Blk w' (gA) 54 #[.int .i64 3, .int .i64 1, .bool false, .int .i64 0, .string ⟨#[104, 116, 116, 112, 115]⟩, .string ⟨#[97]⟩, .bool false, .int .u32 0, .int .i64 443, .int .i64 0] ∧ Blk w' (gB) 58 #[.int .i64 1, .bool true, .bool false] ∧ Blk w' (gC) 58 #[.int .i64 2, .bool false, .bool false] ∧ Blk w' (gE) 58 #[.int .i64 0, .bool false, .bool false] ∧ Blk w' (gF) 58 #[.int .i64 0, .bool false, .bool false])
  case first =>
    go_wp2_with (go_at_call 27; refine (hWd.out _ (bw_)).mono ?_; rintro e w1 ⟨rfl, hb⟩; obtain ⟨hc, hfz⟩ := bcell hb; have hz := hb.size; (try simp at hz); (try have hz0 := lt_ hb w.heap.size); (try have hz1 := lt_ hb (w.heap.size + 1)); (try have hz2 := lt_ hb (w.heap.size + 2)); (try have hz3 := lt_ hb (w.heap.size + 3)); (try have hcA := fun o => hc w.heap.size o sz_); (try have hcB := fun o => hc (w.heap.size + 1) o sz_); (try (have i := cf_ hb g; obtain ⟨hcGg, hfGg, hzGg⟩ := i)); (try (have i := cf_ hb gA; obtain ⟨hcGgA, hfGgA, hzGgA⟩ := i)); (try (have i := cf_ hb gB; obtain ⟨hcGgB, hfGgB, hzGgB⟩ := i)); (try (have i := cf_ hb gC; obtain ⟨hcGgC, hfGgC, hzGgC⟩ := i)); (try (have i := cf_ hb gD; obtain ⟨hcGgD, hfGgD, hzGgD⟩ := i)); (try (have i := cf_ hb gE; obtain ⟨hcGgE, hfGgE, hzGgE⟩ := i)); (try (have i := cf_ hb gF; obtain ⟨hcGgF, hfGgF, hzGgF⟩ := i)); (try (have i := cf_ hb gV; obtain ⟨hcGgV, hfGgV, hzGgV⟩ := i)))
    go_meet
    case rel =>
      exact ⟨_, rfl, rfl, bw_, bkx_, bkx_, bkx_, bkx_, bkx_⟩
  case rest =>
  clear hw0 hwz hAl hAc hAf hBl hBc hBf hCl hCc hCf hEl hEc hEf hBA hBB hBC hBE 
  obtain ⟨gF, rfl, rfl, hw0, hBA, hBB, hBC, hBE, hBF⟩ := hcut
  have hwz := hw0.size
  have hAl := hBA.lt
  have hAc := hBA.cell
  have hAf := hBA.frozen
  have hBl := hBB.lt
  have hBc := hBB.cell
  have hBf := hBB.frozen
  have hCl := hBC.lt
  have hCc := hBC.cell
  have hCf := hBC.frozen
  have hEl := hBE.lt
  have hEc := hBE.cell
  have hEf := hBE.frozen
  have hFl := hBF.lt
  have hFc := hBF.cell
  have hFf := hBF.frozen
  go_wp2_with (go_at_call 24; refine (hS.out _ _ (bw_) (bkx_)).mono ?_; rintro e w1 ⟨rfl, hb⟩; obtain ⟨hc, hfz⟩ := bcell hb; have hz := hb.size; (try simp at hz); (try have hz0 := lt_ hb w.heap.size); (try have hz1 := lt_ hb (w.heap.size + 1)); (try have hz2 := lt_ hb (w.heap.size + 2)); (try have hz3 := lt_ hb (w.heap.size + 3)); (try have hcA := fun o => hc w.heap.size o sz_); (try have hcB := fun o => hc (w.heap.size + 1) o sz_); (try (have i := cf_ hb g; obtain ⟨hcGg, hfGg, hzGg⟩ := i)); (try (have i := cf_ hb gA; obtain ⟨hcGgA, hfGgA, hzGgA⟩ := i)); (try (have i := cf_ hb gB; obtain ⟨hcGgB, hfGgB, hzGgB⟩ := i)); (try (have i := cf_ hb gC; obtain ⟨hcGgC, hfGgC, hzGgC⟩ := i)); (try (have i := cf_ hb gD; obtain ⟨hcGgD, hfGgD, hzGgD⟩ := i)); (try (have i := cf_ hb gE; obtain ⟨hcGgE, hfGgE, hzGgE⟩ := i)); (try (have i := cf_ hb gF; obtain ⟨hcGgF, hfGgF, hzGgF⟩ := i)); (try (have i := cf_ hb gV; obtain ⟨hcGgV, hfGgV, hzGgV⟩ := i)))
  go_ret
  exact ⟨rfl, bw_⟩
end Go.Proofs.YtbafofldgkigmaaGreatDoor
