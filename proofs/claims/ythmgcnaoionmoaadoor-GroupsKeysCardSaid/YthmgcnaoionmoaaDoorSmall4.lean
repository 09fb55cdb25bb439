/- glacislaw04: Small, of. -/
import Derived.Test.YthmgcnaoionmoaaDoorOriginOf
namespace Go.Proofs.YthmgcnaoionmoaaDoor
open Go.RowKit
attribute [local irreducible] Calls
def smallS (S : List (List UInt8)) : Bool := decide (S.length ≤ 100) && S.all (fun s => decide (s.length ≤ 1000))
set_option maxHeartbeats 1000000 in
theorem law4_small (v : Value) (S : List (List UInt8)) (w : World) (B : Nat) (hv : Strs w B v S) : Calls Tryd.prog 30 #[v] w (Same w (.bool (smallS S))) := by
  generalize hR : smallS S = R
  unfold smallS at hR
  have H := Lib.hid hv
  obtain ⟨A, c, rfl, hc1, hc2, _⟩ := hv
  unfold maxLen at hc2
  by_cases hl : S.length ≤ 100
  · replace hR : Hid ((S.drop 0).all (fun s => decide (s.length ≤ 1000)) = R) := Lib.hid (by rw [← hR]; simp [hl])
    go_enter Tryd.func30, Tryd.ntmps30
    go_wp2
    go_loop [3] (fun i => ∃ k : Nat, k ≤ S.length ∧ i = .int .i64 k ∧ Hid ((S.drop k).all (fun s => decide (s.length ≤ 1000)) = R)) (fun i => S.length - (intOf i).toNat)
    case atStart => exact ⟨0, Nat.zero_le _, rfl, hR⟩
    case round =>
      obtain ⟨k, hk, rfl, hr⟩ := hrel
      by_cases hlt : k < S.length
      · obtain ⟨sb, so, sd, he, hsB, hcell⟩ := H.out.cells k hlt
        injection he with he1 he2 he3
        subst he1 he3
        have hck := hcell k hlt
        clear hcell
        rw [drop_consL hlt, List.all_cons] at hr
        by_cases hx : 1000 < S[k].length
        · have hf : Hid (R = false) := Lib.hid (by rw [← hr.out]; simp; intro h; omega)
          clear hr
          go_wp2
          go_ret
          exact ret_bool (by rw [hf.out])
        · have hf : Hid ((S.drop (k + 1)).all (fun s => decide (s.length ≤ 1000)) = R) := Lib.hid (by rw [← hr.out]; simp; omega)
          clear hr
          go_wp2
          go_round
          case rel => exact ⟨k + 1, by omega, by go_num, hf⟩
          case measure => simp [intOf]; omega
      · have hf : Hid (R = true) := Lib.hid (by rw [← hr.out, List.drop_eq_nil_of_le (by omega)]; rfl)
        go_wp2
        go_ret
        exact ret_bool (by rw [hf.out])
  · have hf : Hid (R = false) := Lib.hid (by rw [← hR]; simp; intro h; omega)
    go_enter Tryd.func30, Tryd.ntmps30
    go_wp2
    go_ret
    exact ret_bool (by rw [hf.out])
theorem small_out {S : List (List UInt8)} (h : smallS S = true) : S.length ≤ 100 ∧ ∀ s ∈ S, s.length ≤ 1000 := by
  unfold smallS at h
  simp at h
  exact h
theorem web_rest (u : Gl.URL) (rest : List UInt8) (hu : u.rest = []) : (Gl.web u rest).1.rest = [] := by
  cases hp2 : ([47, 47] : List UInt8).isPrefixOf rest with
  | false => rw [web_slash _ _ hp2]
  | true =>
    cases h64 : (Gl.span [47, 63] (rest.drop 2)).1.contains 64 with
    | true => rw [web_at _ _ h64]
    | false =>
      rw [web_more _ _ hp2 h64]
      split
      · rfl
      · split
        · split
          · rfl
          · exact hu
        · exact hu
theorem parse_rest_len (s : List UInt8) : (Gl.parse s).1.rest.length ≤ s.length := by
  have hlen := trim_len s
  unfold Gl.parse
  generalize Gl.netText = inner at *
  by_cases h0 : 2000 < (Gl.trim s).length
  · rw [core_long _ _ h0]; simp
  by_cases h1 : (Gl.span [58] (Gl.trim s)).2 = [] ∨ Gl.scheme (Gl.lower (Gl.span [58] (Gl.trim s)).1) = false
  · rw [core_form _ _ h1]; simp
  have h2 : (Gl.span [58] (Gl.trim s)).2 ≠ [] := fun e => h1 (Or.inl e)
  have h3 : Gl.scheme (Gl.lower (Gl.span [58] (Gl.trim s)).1) = true := by
    cases hh : Gl.scheme (Gl.lower (Gl.span [58] (Gl.trim s)).1) with
    | true => rfl
    | false => exact absurd (Or.inr hh) h1
  rw [core_rest _ _ h0 h2 h3]
  have l1 := span_len [58] (Gl.trim s)
  have l2 := span_len [35] ((Gl.span [58] (Gl.trim s)).2.drop 1)
  rw [List.length_drop] at l2
  split
  · unfold core2
    split
    · simp
    · split
      · have := web_rest { scheme := Gl.lower (Gl.span [58] (Gl.trim s)).1, port := -1 } (Gl.span [35] ((Gl.span [58] (Gl.trim s)).2.drop 1)).1 rfl
        rw [this]; simp
      · split
        · simp
        · split
          · simp
          · simp only; omega
  · simp
set_option maxHeartbeats 1000000 in
theorem law4_of (s : List UInt8) (id : Int) (w : World) (hE : Env w) (hs : s.length ≤ 4294967280) : Calls Tryd.prog 64 #[(Value.string ⟨(s).toArray⟩), .int .i64 id] w (Ret w ((Value.agg #[(Value.bool (Gl.originOf (Gl.parse s).1 id).opaq), (Value.int .i64 (Gl.originOf (Gl.parse s).1 id).id), (Value.string ⟨((Gl.originOf (Gl.parse s).1 id).scheme).toArray⟩), (Value.string ⟨(((Gl.originOf (Gl.parse s).1 id).host).name).toArray⟩), (Value.bool ((Gl.originOf (Gl.parse s).1 id).host).v4), (Value.int .u32 (((Gl.originOf (Gl.parse s).1 id).host).addr : Int)), (Value.int .i64 (Gl.originOf (Gl.parse s).1 id).port)]))) := by
  have hp := fun W (hW : Below w.heap.size w W) => urlp_parse s W hs (hE.below hW)
  have hr := parse_rest_len s
  generalize Gl.parse s = p at *
  obtain ⟨u, e⟩ := p
  simp only at hp hr ⊢
  have ho := fun W (hW : Below w.heap.size w W) => origin_of u id W (hE.below hW) (by omega)
  generalize Gl.originOf u id = o at *
  replace hp := Lib.hid hp
  replace ho := Lib.hid ho
  go_enter Tryd.func64, Tryd.ntmps64
  go_wp2_with (first | (go_at_call 20; refine ( hp.out _ (by (repeat' first | (with_reducible exact Below.refl _ _) | (with_reducible refine Below.setCell ?_ (by first | omega | (simp; done) | (simp; omega)) _) | (with_reducible refine Below.alloc ?_ (by first | omega | (simp; done) | (simp; omega)) _) | refine below_drewN ?_ _ | refine Below.drew ?_ | (refine below_thru (by assumption) ?_ (by first | omega | (simp; done) | (simp; omega))) | exact Below.refl _ _))).mono ?_; rintro e w1 ⟨rfl, hb⟩; obtain ⟨hc, hfz⟩ := bcell hb; have hz := hb.size; (try simp at hz); (try have hz0 : w.heap.size < w1.heap.size := by omega); (try have hz1 : w.heap.size + 1 < w1.heap.size := by omega); (try have hz2 : w.heap.size + 2 < w1.heap.size := by omega); (try have hz3 : w.heap.size + 3 < w1.heap.size := by omega); (try have hcA := fun o => hc w.heap.size o (by first | omega | (simp; omega))); (try have hcB := fun o => hc (w.heap.size + 1) o (by first | omega | (simp; omega))); (try have hcGg := fun o => hc g o (by first | omega | (simp; omega))); (try have hfGg := fun o => hfz g o (by first | omega | (simp; omega))); (try have hzGg : g < w1.heap.size := by omega); (try have hcGgA := fun o => hc gA o (by first | omega | (simp; omega))); (try have hfGgA := fun o => hfz gA o (by first | omega | (simp; omega))); (try have hzGgA : gA < w1.heap.size := by omega); (try have hcGgB := fun o => hc gB o (by first | omega | (simp; omega))); (try have hfGgB := fun o => hfz gB o (by first | omega | (simp; omega))); (try have hzGgB : gB < w1.heap.size := by omega); (try have hcGgV := fun o => hc gV o (by first | omega | (simp; omega))); (try have hfGgV := fun o => hfz gV o (by first | omega | (simp; omega))); (try have hzGgV : gV < w1.heap.size := by omega)) | (go_at_call 39; refine ( ho.out _ (by (repeat' first | (with_reducible exact Below.refl _ _) | (with_reducible refine Below.setCell ?_ (by first | omega | (simp; done) | (simp; omega)) _) | (with_reducible refine Below.alloc ?_ (by first | omega | (simp; done) | (simp; omega)) _) | refine below_drewN ?_ _ | refine Below.drew ?_ | (refine below_thru (by assumption) ?_ (by first | omega | (simp; done) | (simp; omega))) | exact Below.refl _ _))).mono ?_; rintro e w1 ⟨rfl, hb⟩; obtain ⟨hc, hfz⟩ := bcell hb; have hz := hb.size; (try simp at hz); (try have hz0 : w.heap.size < w1.heap.size := by omega); (try have hz1 : w.heap.size + 1 < w1.heap.size := by omega); (try have hz2 : w.heap.size + 2 < w1.heap.size := by omega); (try have hz3 : w.heap.size + 3 < w1.heap.size := by omega); (try have hcA := fun o => hc w.heap.size o (by first | omega | (simp; omega))); (try have hcB := fun o => hc (w.heap.size + 1) o (by first | omega | (simp; omega))); (try have hcGg := fun o => hc g o (by first | omega | (simp; omega))); (try have hfGg := fun o => hfz g o (by first | omega | (simp; omega))); (try have hzGg : g < w1.heap.size := by omega); (try have hcGgA := fun o => hc gA o (by first | omega | (simp; omega))); (try have hfGgA := fun o => hfz gA o (by first | omega | (simp; omega))); (try have hzGgA : gA < w1.heap.size := by omega); (try have hcGgB := fun o => hc gB o (by first | omega | (simp; omega))); (try have hfGgB := fun o => hfz gB o (by first | omega | (simp; omega))); (try have hzGgB : gB < w1.heap.size := by omega); (try have hcGgV := fun o => hc gV o (by first | omega | (simp; omega))); (try have hfGgV := fun o => hfz gV o (by first | omega | (simp; omega))); (try have hzGgV : gV < w1.heap.size := by omega)))
  refine bodyPost_ret (v := (Value.agg #[(Value.bool (o).opaq), (Value.int .i64 (o).id), (Value.string ⟨((o).scheme).toArray⟩), (Value.string ⟨(((o).host).name).toArray⟩), (Value.bool ((o).host).v4), (Value.int .u32 (((o).host).addr : Int)), (Value.int .i64 (o).port)])) (by simp only [results, Tryd.results64]; go_simp) rfl ⟨rfl, ?_⟩
  (repeat' first | (with_reducible exact Below.refl _ _) | (with_reducible refine Below.setCell ?_ (by first | omega | (simp; done) | (simp; omega)) _) | (with_reducible refine Below.alloc ?_ (by first | omega | (simp; done) | (simp; omega)) _) | refine below_drewN ?_ _ | refine Below.drew ?_ | (refine below_thru (by assumption) ?_ (by first | omega | (simp; done) | (simp; omega))) | exact Below.refl _ _)
end Go.Proofs.YthmgcnaoionmoaaDoor
