/- glacislaw15.Little: few policies of few short words. -/
import Derived.Test.YtkfoogmncokjnaaGreatDoorAppend
import Derived.Test.YtkfoogmncokjnaaGreatDoorPols
import Derived.Test.YtkfoogmncokjnaaGreatDoorText
namespace Go.Proofs.YtkfoogmncokjnaaGreatDoor
open Go.RowKit
attribute [local irreducible] Calls
def shortP (L : List (List UInt8)) : Bool := L.all (fun s => decide (s.length ≤ 300))
def polP (p : Gl.Pol) : Bool := decide ((p.anc ++ p.boxes).length ≤ 60) && shortP (p.anc ++ p.boxes)
def littleP (Ps : List Gl.Pol) : Bool := decide (Ps.length ≤ 30) && Ps.all polP
theorem little_out {Ps : List Gl.Pol} (h : littleP Ps = true) : Ps.length ≤ 30 ∧ ∀ p ∈ Ps, p.anc.length ≤ 60 ∧ p.boxes.length ≤ 60 ∧ (∀ s ∈ p.anc, s.length ≤ 300) ∧ ∀ s ∈ p.boxes, s.length ≤ 300 := by
  unfold littleP polP shortP at h
  simp only [Bool.and_eq_true, decide_eq_true_eq, List.all_eq_true, List.length_append, List.mem_append] at h
  refine ⟨h.1, fun p hp => ?_⟩
  obtain ⟨h1, h2⟩ := h.2 p hp
  exact ⟨by omega, by omega, fun s hs => h2 s (Or.inl hs), fun s hs => h2 s (Or.inr hs)⟩
theorem ones_texts {L : List (List UInt8)} : Ones (L.map fun x => #[(Value.string ⟨(x).toArray⟩)]) := by
  intro c hc u hu
  obtain ⟨x, _, rfl⟩ := List.mem_map.1 hc
  simp at hu
  subst hu
  rfl
theorem below_own {B C : Nat} {a W w1 : World} (hb : Below C W w1) (h : Below B a W) (hB : B ≤ C) : Below B a w1 := h.trans (hb.mono hB)
set_option maxRecDepth 100000 in
set_option maxHeartbeats 4000000 in
theorem law15_little (vp : Value) (ev er : Int) (et eu : List UInt8) (Ps : List Gl.Pol) (w : World) (hP : Pols w vp Ps) (hb : ∀ p ∈ Ps, p.anc.length ≤ 1048576 ∧ p.boxes.length ≤ 1048576) :
    Calls Tryz.prog 14 #[.agg #[vp, .int .i64 ev, (Value.string ⟨(et).toArray⟩), .int .i64 er, (Value.string ⟨(eu).toArray⟩)]] w (Ret w (.bool (littleP Ps))) := by
  generalize hR : littleP Ps = R
  unfold littleP at hR
  have H := Lib.hid hP
  obtain ⟨A, c, rfl⟩ := hP.form
  clear hP
  by_cases hl : 30 < Ps.length
  · have hf : Hid (R = false) := Lib.hid (by rw [← hR, decide_eq_false (by omega : ¬ Ps.length ≤ 30)]; rfl)
    go_enter Tryz.func14, Tryz.ntmps14
    go_wp2
    go_ret
    exact ⟨by rw [hf.out] <;> rfl, by (repeat' first | (with_reducible exact Below.refl _ _) | (with_reducible refine Below.setCell ?_ (by first | omega | (simp; done) | (simp; omega)) _) | (with_reducible refine Below.alloc ?_ (by first | omega | (simp; done) | (simp; omega)) _) | refine below_drewN ?_ _ | refine Below.drew ?_ | (refine below_thru (by assumption) ?_ (by first | omega | (simp; done) | (simp; omega))) | exact Below.refl _ _)⟩
  · replace hR : Hid (Ps.all polP = R) := Lib.hid (by rw [← hR, decide_eq_true (by omega : Ps.length ≤ 30)]; rfl)
    obtain ⟨i0, hi0, hz0, hz1, hz2⟩ := info_parts Tryz.infoStr
    go_enter Tryz.func14, Tryz.ntmps14
    go_wp2
    generalize hW0 : (w.alloc (Obj.cells #[.slice A Ps.length c, .int .i64 ev, (Value.string ⟨(et).toArray⟩), .int .i64 er, (Value.string ⟨(eu).toArray⟩)] 26)) = W0
    have hw0 : Below w.heap.size w W0 := by rw [← hW0]; (repeat' first | (with_reducible exact Below.refl _ _) | (with_reducible refine Below.setCell ?_ (by first | omega | (simp; done) | (simp; omega)) _) | (with_reducible refine Below.alloc ?_ (by first | omega | (simp; done) | (simp; omega)) _) | refine below_drewN ?_ _ | refine Below.drew ?_ | (refine below_thru (by assumption) ?_ (by first | omega | (simp; done) | (simp; omega))) | exact Below.refl _ _)
    have hBC : Blk W0 (w.heap.size) 26 #[.slice A Ps.length c, .int .i64 ev, (Value.string ⟨(et).toArray⟩), .int .i64 er, (Value.string ⟨(eu).toArray⟩)] := by rw [← hW0]; exact (Blk.new _ _ _)
    clear hW0
    go_loopw [3, 4, 5] (fun i _ _ wr => ∃ k : Nat, k ≤ Ps.length ∧ i = .int .i64 k ∧ Below w.heap.size w wr ∧ Blk wr w.heap.size 26 #[.slice A Ps.length c, .int .i64 ev, (Value.string ⟨(et).toArray⟩), .int .i64 er, (Value.string ⟨(eu).toArray⟩)] ∧ Hid ((Ps.drop k).all polP = R)) (fun i _ _ _ => Ps.length - (intOf i).toNat)
    case atStart => exact ⟨0, Nat.zero_le _, rfl, hw0, hBC, hR⟩
    case round =>
      clear hw0 hBC
      obtain ⟨k, hk, rfl, hw0, hBC, hr⟩ := hrel
      have hwz := hw0.size
      have hCl := hBC.lt
      have hCc := hBC.cell
      have hCf := hBC.frozen
      by_cases hlt : k < Ps.length
      · obtain ⟨sb, so, sd, he, hsB, hcell⟩ := H.out.cells k hlt
        injection he with he1 he2 he3
        subst he1 he3
        have hcw : ∀ W, Below w.heap.size w W → ∀ i, i < 4 → W.cell? ⟨sb, so + k * 4 + i, none⟩ = (pcells Ps[k])[i]? := fun W hW i hi => (hW.cell (p := ⟨sb, so + k * 4 + i, none⟩) hsB).trans (hcell i hi)
        have hva := (H.out.2 _ (List.getElem_mem hlt)).1
        have hvb := (H.out.2 _ (List.getElem_mem hlt)).2
        have hpb := hb _ (List.getElem_mem hlt)
        rw [drop_consX hlt, List.all_cons] at hr
        generalize Ps[k] = p at *
        have hq1 := fun W (hW : Below w.heap.size w W) => hcw W hW 1 (by decide)
        have hq3 := fun W (hW : Below w.heap.size w W) => hcw W hW 3 (by decide)
        obtain ⟨ph, pva, pbx, pvb, panc, pbs⟩ := p
        simp only [pcells, List.getElem?_toArray, List.getElem?_cons_zero, List.getElem?_cons_succ] at hq1 hq3
        simp only at hva hvb hpb
        clear hcell hcw
        obtain ⟨hpb1, hpb2⟩ := hpb
        obtain ⟨A3, c3, rfl, _⟩ := id hva
        obtain ⟨A4, c4, rfl, _⟩ := id hvb
        have q1 := hq1 _ hw0
        have q3 := hq3 _ hw0
        replace hva := Lib.hid hva
        replace hvb := Lib.hid hvb
        go_upto_region 6 with fail
        have hz3 : wr.heap.size ≤ wr.heap.size := Nat.le_refl _
        obtain ⟨L, hL⟩ : ∃ L, L = panc ++ pbs := ⟨_, rfl⟩
        replace hL := Lib.hid hL
        go_cut [4] from 10 (fun x4 w' => ∃ A5 c5, x4 = .slice A5 L.length c5 ∧ Strs w' w'.heap.size x4 L ∧ Below w.heap.size w w' ∧ Blk w' w.heap.size 26 #[.slice (some ⟨sb, so, none⟩) Ps.length c, .int .i64 ev, (Value.string ⟨(et).toArray⟩), .int .i64 er, (Value.string ⟨(eu).toArray⟩)])
        case first =>
          go_region_held3 (fun W => Below w.heap.size w W ∧ Below wr.heap.size wr W ∧ wr.heap.size ≤ W.heap.size ∧ (∀ n0, W.cell? ⟨w.heap.size, n0, none⟩ = (#[.slice (some ⟨sb, so, none⟩) Ps.length c, .int .i64 ev, (Value.string ⟨(et).toArray⟩), .int .i64 er, (Value.string ⟨(eu).toArray⟩)] : Array Value)[n0]?) ∧ W.cell? ⟨sb, so + k * 4 + 1, none⟩ = some (.slice A3 panc.length c3) ∧ W.cell? ⟨sb, so + k * 4 + 3, none⟩ = some (.slice A4 pbs.length c4)) ((refine ⟨by (repeat' first | (with_reducible exact Below.refl _ _) | (with_reducible refine Below.drew ?_) | (with_reducible refine Below.alloc ?_ (by first | omega | (simp; done) | (simp; omega)) _) | (refine below_own (by assumption) ?_ (by first | omega | (simp; done) | (simp; omega))) | exact Below.refl _ _), by (repeat' first | (with_reducible exact Below.refl _ _) | (with_reducible refine Below.drew ?_) | (with_reducible refine Below.alloc ?_ (by first | omega | (simp; done) | (simp; omega)) _) | (refine below_own (by assumption) ?_ (by first | omega | (simp; done) | (simp; omega))) | exact Below.refl _ _), by first | omega | (simp; done) | (simp; omega), by exact Blk.cell (t := 26) (by (repeat' first | (with_reducible assumption) | (with_reducible exact Blk.new _ _ _) | (with_reducible refine Blk.drew_ ?_) | (with_reducible refine Blk.alloc ?_ _) | (refine Blk.grown ?_ (by assumption) (by simp [Value.ownBlock]; omega)) | (refine Blk.below ?_ (by assumption) (by first | omega | (simp; done) | (simp; omega))))), hq1 _ (by (repeat' first | (with_reducible exact Below.refl _ _) | (with_reducible refine Below.drew ?_) | (with_reducible refine Below.alloc ?_ (by first | omega | (simp; done) | (simp; omega)) _) | (refine below_own (by assumption) ?_ (by first | omega | (simp; done) | (simp; omega))) | exact Below.refl _ _)), hq3 _ (by (repeat' first | (with_reducible exact Below.refl _ _) | (with_reducible refine Below.drew ?_) | (with_reducible refine Below.alloc ?_ (by first | omega | (simp; done) | (simp; omega)) _) | (refine below_own (by assumption) ?_ (by first | omega | (simp; done) | (simp; omega))) | exact Below.refl _ _))⟩)) (first | (refine step_cat rfl (.tmp 17) (.tmp 23) 43 rfl wr.heap.size 9 i0 _ 1 16 Tryz.underlying43 hi0 hz0 hz1 hz2 rfl (by decide) _ [] rfl (OwnS.of_blk (cs := #[]) (by (repeat' first | (with_reducible assumption) | (with_reducible exact Blk.new _ _ _) | (with_reducible refine Blk.drew_ ?_) | (with_reducible refine Blk.alloc ?_ _) | (refine Blk.grown ?_ (by assumption) (by simp [Value.ownBlock]; omega)) | (refine Blk.below ?_ (by assumption) (by first | omega | (simp; done) | (simp; omega))))) (by first | omega | (simp; omega)) (by simp) (by rfl) (by rfl) (by decide)) _ (.slice A3 panc.length c3) (panc.map fun x => #[(Value.string ⟨(x).toArray⟩)]) rfl (((hva.out.keep (by (repeat' first | (with_reducible exact Below.refl _ _) | (with_reducible refine Below.drew ?_) | (with_reducible refine Below.alloc ?_ (by first | omega | (simp; done) | (simp; omega)) _) | (refine below_own (by assumption) ?_ (by first | omega | (simp; done) | (simp; omega))) | exact Below.refl _ _))).more (by first | omega | (simp; omega))).slots) (by simp) ones_texts (by simp [maxLen]; omega) (by simp; omega) (by first | omega | (simp; omega)) ?_; intro v1 wA hown1 hbA hgr1; have hzA := hbA.size; (try simp at hzA)) | (refine step_cat rfl (.tmp 24) (.tmp 30) 43 rfl wr.heap.size 9 i0 _ 1 16 Tryz.underlying43 hi0 hz0 hz1 hz2 rfl (by decide) v1 _ rfl (hown1.keep (by (repeat' first | (with_reducible exact Below.refl _ _) | (with_reducible refine Below.drew ?_) | (with_reducible refine Below.alloc ?_ (by first | omega | (simp; done) | (simp; omega)) _) | (refine below_own (by assumption) ?_ (by first | omega | (simp; done) | (simp; omega))) | exact Below.refl _ _)) (Nat.le_refl _)) _ (.slice A4 pbs.length c4) (pbs.map fun x => #[(Value.string ⟨(x).toArray⟩)]) rfl (((hvb.out.keep (by (repeat' first | (with_reducible exact Below.refl _ _) | (with_reducible refine Below.drew ?_) | (with_reducible refine Below.alloc ?_ (by first | omega | (simp; done) | (simp; omega)) _) | (refine below_own (by assumption) ?_ (by first | omega | (simp; done) | (simp; omega))) | exact Below.refl _ _))).more (by first | omega | (simp; omega))).slots) (by simp) ones_texts (by simp [maxLen]; omega) (by simp; omega) (by first | omega | (simp; omega)) ?_; intro v2 wB hown2 hbB hgr2; have hzB := hbB.size; (try simp at hzB)))
          all_goals have hst : Slots wB wB.heap.size v2 1 (L.map fun x => #[(Value.string ⟨(x).toArray⟩)]) := by rw [hL.out]; simpa using hown2.slots
          all_goals obtain ⟨A5, c5, rfl, _⟩ := id (Slots.strs hst)
          all_goals go_wp2_with fail
          all_goals go_meet
          case rel => exact ⟨A5, c5, rfl, Slots.strs hst, by (repeat' first | (with_reducible exact Below.refl _ _) | (with_reducible refine Below.drew ?_) | (with_reducible refine Below.alloc ?_ (by first | omega | (simp; done) | (simp; omega)) _) | (refine below_own (by assumption) ?_ (by first | omega | (simp; done) | (simp; omega))) | exact Below.refl _ _), by (repeat' first | (with_reducible assumption) | (with_reducible exact Blk.new _ _ _) | (with_reducible refine Blk.drew_ ?_) | (with_reducible refine Blk.alloc ?_ _) | (refine Blk.grown ?_ (by assumption) (by simp [Value.ownBlock]; omega)) | (refine Blk.below ?_ (by assumption) (by first | omega | (simp; done) | (simp; omega))))⟩
        case rest =>
          clear hw0 hBC hwz hCl hCc hCf q1 q3 hq1 hq3 hva hvb hz3 hR
          obtain ⟨A5, c5, rfl, hS5, hw0, hBC⟩ := hcut
          have hwz := hw0.size
          replace hr : Hid ((decide ((panc ++ pbs).length ≤ 60) && shortP (panc ++ pbs) && (Ps.drop (k + 1)).all polP) = R) := hr
          rw [← hL.out] at hr
          clear hpb1 hpb2 hL
          have H3 := Lib.hid hS5
          clear hS5
          by_cases h60 : 60 < L.length
          · have hf : Hid (R = false) := Lib.hid (by rw [← hr.out, decide_eq_false (by omega : ¬ L.length ≤ 60)]; rfl)
            clear hr
            go_wp2
            go_ret
            exact ⟨by rw [hf.out] <;> rfl, by (repeat' first | (with_reducible exact Below.refl _ _) | (with_reducible refine Below.setCell ?_ (by first | omega | (simp; done) | (simp; omega)) _) | (with_reducible refine Below.alloc ?_ (by first | omega | (simp; done) | (simp; omega)) _) | refine below_drewN ?_ _ | refine Below.drew ?_ | (refine below_thru (by assumption) ?_ (by first | omega | (simp; done) | (simp; omega))) | exact Below.refl _ _)⟩
          · replace hr : Hid ((L.all (fun s => decide (s.length ≤ 300)) && (Ps.drop (k + 1)).all polP) = R) := Lib.hid (by rw [← hr.out, decide_eq_true (by omega : L.length ≤ 60)]; rfl)
            go_wp2
            go_loop [5] (fun i => ∃ m : Nat, m ≤ L.length ∧ i = .int .i64 m ∧ Hid (((L.drop m).all (fun s => decide (s.length ≤ 300)) && (Ps.drop (k + 1)).all polP) = R)) (fun i => L.length - (intOf i).toNat)
            case atStart => exact ⟨0, Nat.zero_le _, rfl, hr⟩
            case round =>
              clear hr
              obtain ⟨m, hm, rfl, hr⟩ := hrel
              by_cases hmt : m < L.length
              · obtain ⟨sb5, so5, sd5, he5, hsB5, hcell5⟩ := H3.out.cells m hmt
                injection he5 with he6 he7 he8
                subst he6 he8
                have hck := hcell5 m hmt
                clear hcell5
                rw [drop_consL hmt, List.all_cons] at hr
                by_cases hx : 300 < L[m].length
                · have hf : Hid (R = false) := Lib.hid (by rw [← hr.out, decide_eq_false (by omega : ¬ L[m].length ≤ 300)]; rfl)
                  clear hr
                  go_wp2
                  go_ret
                  exact ⟨by rw [hf.out] <;> rfl, by (repeat' first | (with_reducible exact Below.refl _ _) | (with_reducible refine Below.setCell ?_ (by first | omega | (simp; done) | (simp; omega)) _) | (with_reducible refine Below.alloc ?_ (by first | omega | (simp; done) | (simp; omega)) _) | refine below_drewN ?_ _ | refine Below.drew ?_ | (refine below_thru (by assumption) ?_ (by first | omega | (simp; done) | (simp; omega))) | exact Below.refl _ _)⟩
                · have hf : Hid (((L.drop (m + 1)).all (fun s => decide (s.length ≤ 300)) && (Ps.drop (k + 1)).all polP) = R) := Lib.hid (by rw [← hr.out, decide_eq_true (by omega : L[m].length ≤ 300), Bool.true_and])
                  clear hr
                  go_wp2
                  go_round
                  case rel => exact ⟨m + 1, by omega, by go_num, hf⟩
                  case measure => simp [intOf]; omega
              · have hf : Hid ((Ps.drop (k + 1)).all polP = R) := Lib.hid (by rw [← hr.out, show L.drop m = [] from List.drop_eq_nil_of_le (by omega)]; rfl)
                clear hr
                go_wp2
                go_roundw
                case rel => first | exact ⟨k + 1, by omega, by go_num, by (repeat' first | (with_reducible exact Below.refl _ _) | (with_reducible refine Below.setCell ?_ (by first | omega | (simp; done) | (simp; omega)) _) | (with_reducible refine Below.alloc ?_ (by first | omega | (simp; done) | (simp; omega)) _) | refine below_drewN ?_ _ | refine Below.drew ?_ | (refine below_thru (by assumption) ?_ (by first | omega | (simp; done) | (simp; omega))) | exact Below.refl _ _), by (repeat' first | (with_reducible assumption) | (with_reducible exact Blk.new _ _ _) | (with_reducible refine Blk.drew_ ?_) | (with_reducible refine Blk.alloc ?_ _) | (refine Blk.below ?_ (by assumption) (by first | omega | (simp; done) | (simp; omega)))), hf⟩ | exact ⟨_, _, ⟨k + 1, by omega, rfl, hf⟩, rfl, by go_num⟩ | exact ⟨_, _, ⟨k + 1, by omega, rfl, hf⟩, rfl, by go_num, rfl⟩ | (trace_state; sorry)
                case measure => simp [intOf]; omega
      · have hf : Hid (R = true) := Lib.hid (by rw [← hr.out, List.drop_eq_nil_of_le (by omega)]; rfl)
        clear hr
        go_wp2
        go_ret
        exact ⟨by rw [hf.out] <;> rfl, hw0⟩
end Go.Proofs.YtkfoogmncokjnaaGreatDoor
