/- glacisref07: Values, Combined. -/
import Derived.Test.YtbafofldgkigmaaGreatDoorHeadVals
namespace Go.Proofs.YtbafofldgkigmaaGreatDoor
open Go.RowKit
attribute [local irreducible] Calls
set_option maxRecDepth 100000 in
set_option maxHeartbeats 2000000 in
theorem ref7_values (v : Value) (L : List Gl.Head) (nm : List UInt8) (w : World) (hv : Heads w v L) (hL : ∀ h ∈ L, HeadFit h) (hLl : L.length ≤ 1000000) (hnm : nm.length ≤ 281474976710656) :
    Calls Tryz.prog 91 #[v, (Value.string ⟨(nm).toArray⟩)] w (RetStrs w (Gl.values L nm)) := by
  have H := Lib.hid hv
  obtain ⟨A, c, rfl⟩ := hv.form
  clear hv
  replace hL := Lib.hid hL
  go_enter Tryz.func91, Tryz.ntmps91
  go_wp2
  go_loopw [5, 6, 7] (fun out i _ wr => ∃ k : Nat, k ≤ L.length ∧ i = .int .i64 k ∧ Own wr w.heap.size out (Gl.values (L.take k) nm) ∧ Below w.heap.size w wr) (fun _ i _ _ => L.length - (intOf i).toNat)
  case atStart => exact ⟨0, Nat.zero_le _, rfl, Own.nil _ _, Below.refl _ _⟩
  case round =>
    obtain ⟨k, hk, rfl, hown, hw0⟩ := hrel
    have hwz := hw0.size
    by_cases hlt : k < L.length
    · obtain ⟨sb, so, sd, he, hsB, hcell⟩ := H.out.cells k hlt
      injection he with he1 he2 he3
      subst he1 he3
      have q0 := fun (W : World) (hW : Below w.heap.size w W) => (hW.cell (p := ⟨sb, so + k * 2 + 0, none⟩) hsB).trans (hcell 0 (by decide))
      have q1 := fun (W : World) (hW : Below w.heap.size w W) => (hW.cell (p := ⟨sb, so + k * 2 + 1, none⟩) hsB).trans (hcell 1 (by decide))
      clear hcell
      have hfit := hL.out _ (List.getElem_mem hlt)
      have htk : Gl.values (L.take (k + 1)) nm = Gl.values (L.take k) nm ++ Gl.values [L[k]] nm := by rw [← values_app, List.take_succ_eq_append_getElem hlt]
      have hvl : (Gl.values (L.take k) nm).length ≤ 1000000 := by have := values_len (L.take k) nm; rw [List.length_take] at this; omega
      rw [values_cons] at htk
      generalize L[k] = x at *
      obtain ⟨xn, xv⟩ := x
      simp only [hcells, Nat.add_zero, List.getElem?_toArray, List.getElem?_cons_zero, List.getElem?_cons_succ] at q0 q1
      simp only at htk
      have hfo := fun W => ref1_fold xn nm W (Nat.le_trans hfit.name (by decide)) hnm
      have htr := fun W => ref1_trim xv W (Nat.le_trans hfit.value (by decide))
      clear hfit
      have c0 := q0 _ hw0
      have c1 := q1 _ hw0
      have hsB1 : sb < wr.heap.size := by omega
      cases hq : Gl.foldS xn nm
      · rw [hq] at hfo htk
        replace hfo := Lib.hid hfo
        replace htk : Hid (Gl.values (L.take (k + 1)) nm = Gl.values (L.take k) nm) := Lib.hid (by rw [htk]; simp [Gl.values])
        replace hown := Lib.hid hown
        go_wp2_with (go_at_call 120; refine (hfo.out _).mono ?_; rintro e w1 ⟨rfl, hb⟩; obtain ⟨hc, hfz⟩ := bcell hb; have hz := hb.size; (try simp at hz); (try have hz0 := lt_ hb w.heap.size); (try have hz1 := lt_ hb (w.heap.size + 1)); (try have hz2 := lt_ hb (w.heap.size + 2)); (try have hz3 := lt_ hb (w.heap.size + 3)); (try have hcA := fun o => hc w.heap.size o sz_); (try have hcB := fun o => hc (w.heap.size + 1) o sz_))
        go_roundw
        case rel => exact ⟨k + 1, by omega, by go_num, by rw [htk.out]; exact hown.out.keep (by assumption) (Nat.le_refl _), bw_⟩
        case measure => simp [intOf]; omega
      · rw [hq] at hfo htk
        replace hfo := Lib.hid hfo
        replace htr := Lib.hid htr
        replace htk : Hid (Gl.values (L.take (k + 1)) nm = Gl.values (L.take k) nm ++ [Gl.trimH xv]) := Lib.hid (by rw [htk]; simp [Gl.values])
        replace hown := Lib.hid hown
        replace hq := Lib.hid hq
        go_wp2_with (first | ((first | (go_at_call 120; refine (hfo.out _).mono ?_) | (go_at_call 121; refine (htr.out _).mono ?_)); rintro e w1 ⟨rfl, hb⟩; obtain ⟨hc, hfz⟩ := bcell hb; have hz := hb.size; (try simp at hz); (try have hz0 := lt_ hb w.heap.size); (try have hz1 := lt_ hb (w.heap.size + 1)); (try have hz2 := lt_ hb (w.heap.size + 2)); (try have hz3 := lt_ hb (w.heap.size + 3)); (try have hcA := fun o => hc w.heap.size o sz_); (try have hcB := fun o => hc (w.heap.size + 1) o sz_)) | (at_builtin; refine wpList_app rfl (.tmp 22) (.tmp 29) rfl w.heap.size (Gl.values (L.take k) nm) _ rfl (hown.out.keep (B' := wr.heap.size) (bw_) (Nat.le_refl _)) (Gl.trimH xv) _ rfl ((Blk.new _ _ _).cell 0) (by omega) (by simp; omega) ?_; intro v2 wB hown2 hbB))
        go_roundw
        case rel => exact ⟨k + 1, by omega, by go_num, by rw [htk.out]; exact hown2, Below.trans (bw_) hbB⟩
        case measure => simp [intOf]; omega
    · obtain rfl : k = L.length := by omega
      rw [List.take_length] at hown
      go_wp2
      go_ret
      exact ⟨_, rfl, hown, hw0⟩
theorem joinTail_take_len (sep : List UInt8) (r : List (List UInt8)) (k : Nat) : (Lib.joinTail sep (r.take k)).length ≤ (Lib.joinTail sep r).length := by
  rw [Lib.joinTail_length, Lib.joinTail_length, List.length_take]
  have h1 := Lib.lens_take_le r k
  have h2 : sep.length * min k r.length ≤ sep.length * r.length := Nat.mul_le_mul_left _ (Nat.min_le_right _ _)
  omega
set_option maxRecDepth 100000 in
set_option maxHeartbeats 2000000 in
theorem ref7_combined (v : Value) (L : List Gl.Head) (nm : List UInt8) (w : World) (hv : Heads w v L) (hL : ∀ h ∈ L, HeadFit h) (hLl : L.length ≤ 1000000) (hnm : nm.length ≤ 281474976710656) :
    Calls Tryz.prog 61 #[v, (Value.string ⟨(nm).toArray⟩)] w (Ret w (.tuple #[(Value.string ⟨(Gl.combined L nm).toArray⟩), .bool (decide (0 < (Gl.values L nm).length))])) := by
  have h1 := ref7_values v L nm w hv hL hLl hnm
  have hvl := values_len L nm
  have hvm : ∀ x ∈ Gl.values L nm, x.length ≤ 1000000 := fun x hx => by
    unfold Gl.values at hx
    obtain ⟨h, hh, rfl⟩ := List.mem_map.1 hx
    exact Nat.le_trans (trimH_len _) (hL h (List.mem_filter.1 hh).1).value
  obtain ⟨A, c, rfl⟩ := hv.form
  unfold Gl.combined
  generalize Gl.values L nm = V at *
  replace h1 := Lib.hid h1
  replace hvm := Lib.hid hvm
  clear hv hL
  obtain ⟨J, hJ⟩ : ∃ J, Lib.join V [44, 32] = J := ⟨_, rfl⟩
  rw [hJ]
  replace hJ := Lib.hid hJ
  go_enter Tryz.func61, Tryz.ntmps61
  go_wp2_with (go_at_call 91; refine h1.out.mono ?_; rintro e wV ⟨v1, rfl, hown, hbV⟩; obtain ⟨A1, c1, rfl⟩ := owns_form hown; have hbVz := hbV.size)
  have H := Lib.hid hown.strs
  clear hown
  have hJl : Lib.join V [44, 32] = J := hJ.out
  go_loopw [7, 8] (fun out i wr => ∃ (k : Nat) (T : List UInt8), k ≤ V.length ∧ i = .int .i64 k ∧ out = (Value.string ⟨(T).toArray⟩) ∧ T.length ≤ k * 1000002 ∧ Hid (T = if k = 0 then [] else Lib.join (V.take k) [44, 32]) ∧ wr = wV) (fun _ i _ => V.length - (intOf i).toNat)
  case atStart => exact ⟨0, [], Nat.zero_le _, rfl, rfl, by simp, Lib.hid rfl, rfl⟩
  case round =>
    obtain ⟨k, T, hk, rfl, rfl, hTl, hT, hwV⟩ := hrel
    subst hwV
    by_cases hlt : k < V.length
    · obtain ⟨sb, so, sd, he, hsB, hcell⟩ := H.out.cells k hlt
      injection he with he1 he2 he3
      subst he1 he3
      have hck := hcell k hlt
      clear hcell
      have hxl := hvm.out _ (List.getElem_mem hlt)
      have htk : V.take (k + 1) = V.take k ++ [V[k]] := List.take_succ_eq_append_getElem hlt
      generalize hx : V[k] = x at *
      have hnew : k ≠ 0 → Lib.join (V.take (k + 1)) [44, 32] = Lib.join (V.take k) [44, 32] ++ [44, 32] ++ x := fun h0 => by
        obtain ⟨j, rfl⟩ : ∃ j, k = j + 1 := ⟨k - 1, by omega⟩
        cases V with
        | nil => simp at hlt
        | cons y r =>
          rw [List.take_succ_cons, List.take_succ_cons, Lib.join_cons, Lib.join_cons]
          have hr : r[j]? = some x := by
            rw [← hx]
            simp only [List.getElem_cons_succ]
            exact List.getElem?_eq_getElem (by simpa using hlt)
          rw [Lib.joinTail_take_succ [44, 32] r j x hr]
          simp
      replace htk := Lib.hid htk
      replace hx := Lib.hid hx
      replace hnew := Lib.hid hnew
      have hkl : k ≤ 1000000 := by omega
      have hb1 : T.length ≤ 1000002000000 := by omega
      have hb2 : ¬ 9223372036854775807 < T.length + x.length := by omega
      have hb3 : ¬ 9223372036854775807 < T.length + 2 := by omega
      have hb4 : ¬ 9223372036854775807 < T.length + 2 + x.length := by omega
      by_cases h0 : 0 < k
      · have hT2 : Hid (T ++ [44, 32] ++ x = Lib.join (V.take (k + 1)) [44, 32]) := Lib.hid (by rw [hnew.out (by omega), hT.out, if_neg (by omega)])
        go_wp2
        go_roundw
        case rel => exact ⟨k + 1, T ++ 44 :: 32 :: x, by omega, by go_num, rfl, by simp; omega, Lib.hid (by rw [if_neg (by omega), ← hT2.out]; simp), by first | rfl | trivial⟩
        case measure => simp [intOf]; omega
      · have hT2 : Hid (T ++ x = Lib.join (V.take (k + 1)) [44, 32]) := Lib.hid (by
          obtain rfl : k = 0 := by omega
          rw [hT.out, htk.out]
          simp [Lib.join_one])
        go_wp2
        go_roundw
        case rel => exact ⟨k + 1, T ++ x, by omega, by go_num, rfl, by simp; omega, Lib.hid (by rw [if_neg (by omega), ← hT2.out]), by first | rfl | trivial⟩
        case measure => simp [intOf]; omega
    · have hT2 : Hid (T = J) := Lib.hid (by
        obtain rfl : k = V.length := by omega
        rw [hT.out, List.take_length]
        split
        · rename_i e
          obtain rfl := List.eq_nil_of_length_eq_zero e
          rw [← hJl]
          rfl
        · exact hJl)
      by_cases h0 : 0 < V.length
      · rw [decide_eq_true h0]
        go_wp2
        refine bodyPost_ret (v := .tuple #[(Value.string ⟨(T).toArray⟩), .bool true]) (by simp only [results, Tryz.results61]; go_simp) rfl ⟨by rw [hT2.out]; simp [h0], ?_⟩
        (exact bw_)
      · rw [decide_eq_false h0]
        go_wp2
        refine bodyPost_ret (v := .tuple #[(Value.string ⟨(T).toArray⟩), .bool false]) (by simp only [results, Tryz.results61]; go_simp) rfl ⟨by rw [hT2.out]; simp [h0], ?_⟩
        (exact bw_)
end Go.Proofs.YtbafofldgkigmaaGreatDoor
