/- glacisref17: New, Isolated, Find, Open. -/
import Derived.Test.YtbafofldgkigmaaGreatDoorCatAt
import Derived.Test.YtbafofldgkigmaaGreatDoorAll
namespace Go.Proofs.YtbafofldgkigmaaGreatDoor
open Go.RowKit
attribute [local irreducible] Calls
def gcells (e : Int × Bool) : Array Value := #[.int .i64 e.1, .bool e.2]
theorem grow_sizes {L : List (Int × Bool)} : ∀ c ∈ L.map gcells, c.size = 2 := by
  intro c hc
  obtain ⟨x, _, rfl⟩ := List.mem_map.1 hc
  rfl
theorem grow_ones {L : List (Int × Bool)} : Ones (L.map gcells) := by
  intro c hc u hu
  obtain ⟨x, _, rfl⟩ := List.mem_map.1 hc
  simp only [gcells, List.mem_cons, List.not_mem_nil, or_false] at hu
  rcases hu with rfl | rfl <;> rfl
theorem Tryz.infoGroup : (Tryz.prog.info? 141).map (fun i => (i.zero, i.size, i.bytes)) = some (some (.agg #[.int .i64 0, .bool false]), 2, 16) := by kernel_rfl
/-- The document's groups, with the plain state. -/
structure RSt (w : World) (g : Nat) (vG vC : Value) (S : Gl.Gs) : Prop where
  blk : Blk w g 89 #[vG, vC, .int .i64 S.most, .int .i64 (S.lg + 1), .int .i64 (S.ln + 1)]
  G : OwnS w (g + 1) 141 2 vG (S.G.map gcells)
  C : OwnS w (g + 1) 75 4 vC (S.L.map ccells)
  apart : vC.ownBlock = none ∨ vC.ownBlock ≠ vG.ownBlock
theorem RSt.below {w w' : World} {g : Nat} {vG vC : Value} {S : Gl.Gs} (h : RSt w g vG vC S) (hb : Below w.heap.size w w') : RSt w' g vG vC S :=
  ⟨h.blk.below hb h.blk.lt, h.G.keep hb (Nat.le_refl _), h.C.keep hb (Nat.le_refl _), h.apart⟩
theorem RSt.form {w : World} {g : Nat} {vG vC : Value} {S : Gl.Gs} (h : RSt w g vG vC S) : (∃ A c, vG = .slice A S.G.length c) ∧ ∃ A c, vC = .slice A S.L.length c := by
  obtain ⟨A, c, e1⟩ := h.G.form
  obtain ⟨A', c', e2⟩ := h.C.form
  exact ⟨⟨A, c, by simpa using e1⟩, ⟨A', c', by simpa using e2⟩⟩
theorem RSt.gcell {w : World} {g : Nat} {A : Option Addr} {n c : Nat} {vC : Value} {S : Gl.Gs} (h : RSt w g (.slice A n c) vC S) (k : Nat) (hk : k < S.G.length) : ∃ b o, A = some ⟨b, o, none⟩ ∧ b < w.heap.size ∧ ∀ i, i < 2 → w.cell? ⟨b, o + k * 2 + i, none⟩ = (gcells S.G[k])[i]? := by
  obtain ⟨b, o, c', e, hb, hc⟩ := Slots.cells h.G.slots k (by simpa using hk)
  injection e with e1
  exact ⟨b, o, e1, hb, fun i hi => by have := hc k (by simpa using hk) i hi; simpa using this⟩
theorem RSt.ccell {w : World} {g : Nat} {A : Option Addr} {n c : Nat} {vG : Value} {S : Gl.Gs} (h : RSt w g vG (.slice A n c) S) (k : Nat) (hk : k < S.L.length) : ∃ b o, A = some ⟨b, o, none⟩ ∧ b < w.heap.size ∧ ∀ i, i < 4 → w.cell? ⟨b, o + k * 4 + i, none⟩ = (ccells S.L[k])[i]? := by
  obtain ⟨b, o, c', e, hb, hc⟩ := Slots.cells h.C.slots k (by simpa using hk)
  injection e with e1
  exact ⟨b, o, e1, hb, fun i hi => by have := hc k (by simpa using hk) i hi; simpa using this⟩
set_option maxHeartbeats 2000000 in
set_option maxRecDepth 100000 in
theorem ref17_new_err (w : World) (most : Int) (h : most < 1 ∨ 200 < most) : Calls Tryz.prog 33 #[.int .i64 most] w (Ret w (.tuple #[.pointer none, .int .i64 1])) := by
  go_enter Tryz.func33, Tryz.ntmps33
  go_wp2
  all_goals refine bodyPost_ret (v := (.tuple #[.pointer none, .int .i64 1])) (by simp only [results, Tryz.results33]; go_simp) rfl ?_
  all_goals exact ⟨rfl, bw_⟩
set_option maxHeartbeats 2000000 in
set_option maxRecDepth 100000 in
theorem ref17_new (w : World) (most : Int) (h : 1 ≤ most) (h2 : most ≤ 200) : Calls Tryz.prog 33 #[.int .i64 most] w (fun e w' => (e = .returned (.tuple #[.pointer (some ⟨w.heap.size, 0, none⟩), .int .i64 0]) ∧ Below w.heap.size w w') ∧ RSt w' w.heap.size (.slice none 0 0) (.slice none 0 0) (Gl.Gs.new most)) := by
  go_enter Tryz.func33, Tryz.ntmps33
  go_wp2
  refine bodyPost_ret (v := (.tuple #[.pointer (some ⟨w.heap.size, 0, none⟩), .int .i64 0])) (by simp only [results, Tryz.results33]; go_simp) rfl ?_
  exact ⟨⟨rfl, bw_⟩, Blk.new _ _ _, OwnS.nil _ _ _ _, OwnS.nil _ _ _ _, Or.inl rfl⟩
set_option maxHeartbeats 4000000 in
set_option maxRecDepth 100000 in
theorem ref17_isolated (w : World) (g : Nat) (vG vC : Value) (S : Gl.Gs) (k : Int) (hok : S.Ok k) (h : RSt w g vG vC S) (n : Int) :
    Calls Tryz.prog 38 #[.pointer (some ⟨g, 0, none⟩), .int .i64 n] w (Ret w (.tuple #[.bool (Gl.isolated S.G n).1, .int .i64 (Gl.isolated S.G n).2])) := by
  obtain ⟨⟨A, c, rfl⟩, _⟩ := h.form
  have hgm := hok.gm
  have hm2 := hok.m2
  have hc0 := h.blk.cell
  have hf0 := h.blk.frozen
  have hl0 := h.blk.lt
  unfold Gl.isolated
  have hres : Gl.lookB (S.G.drop 0) n = Gl.lookB S.G n := by rw [List.drop_zero]
  generalize Gl.lookB S.G n = R at *
  replace hres := Lib.hid hres
  obtain ⟨most, lg, ln, G, L⟩ := S
  simp only at *
  go_enter Tryz.func38, Tryz.ntmps38
  go_wp2_with fail
  go_loopw [6] (fun i wr => ∃ m : Nat, m ≤ G.length ∧ i = .int .i64 m ∧ wr = w ∧ Hid (Gl.lookB (G.drop m) n = R)) (fun i _ => G.length - (intOf i).toNat)
  case atStart => exact ⟨0, Nat.zero_le _, rfl, rfl, hres⟩
  case round =>
    obtain ⟨m, hm, rfl, rfl, hr⟩ := hrel
    by_cases hmt : m < G.length
    · obtain ⟨sb, so, rfl, hsB, hcell⟩ := h.gcell m hmt
      rw [drop_consX hmt] at hr
      simp only at hcell hsB
      generalize G[m] = x at *
      obtain ⟨gx, bx⟩ := x
      have c0 := hcell 0 (by decide)
      have c1 := hcell 1 (by decide)
      simp only [Nat.add_zero, gcells, List.getElem?_toArray, List.getElem?_cons_zero, List.getElem?_cons_succ] at c0 c1
      unfold Gl.lookB at hr
      by_cases q : n = gx
      · subst q
        rw [if_pos rfl] at hr
        have hr := hr.out
        subst hr
        go_wp2
        refine bodyPost_ret (v := (.tuple #[.bool bx, .int .i64 0])) (by simp only [results, Tryz.results38]; go_simp) rfl ?_
        exact ⟨rfl, bw_⟩
      · have q2 : (gx == n) = false := by rw [beq_eq_false_iff_ne]; exact fun e => q e.symm
        rw [if_neg q] at hr
        go_wp2
        go_roundw
        case rel => exact ⟨m + 1, by omega, by go_num, trivial, Lib.hid hr⟩
        case measure => simp [intOf]; omega
    · rw [List.drop_eq_nil_of_le (by omega)] at hr
      have hr := hr.out
      subst hr
      go_wp2
      refine bodyPost_ret (v := (.tuple #[.bool false, .int .i64 170])) (by simp only [results, Tryz.results38]; go_simp) rfl ?_
      exact ⟨rfl, bw_⟩
end Go.Proofs.YtbafofldgkigmaaGreatDoor
