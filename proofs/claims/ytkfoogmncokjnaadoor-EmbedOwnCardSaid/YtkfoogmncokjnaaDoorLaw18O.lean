/- glacislaw18.EmbedOwn. -/
import Derived.Test.YtkfoogmncokjnaaDoorAwake18
import Derived.Test.YtkfoogmncokjnaaDoorFew18
import Derived.Test.YtkfoogmncokjnaaDoorOrigRow
import Derived.IntWalk
namespace Go.Proofs.YtkfoogmncokjnaaDoor
open Go.RowKit
attribute [local irreducible] Calls
theorem same_self18 (a : Gl.Origin) : Gl.originSame a a = true := by
  unfold Gl.originSame
  cases a.opaq <;> simp
theorem xfo_own (o : Gl.Origin) (n : Nat) : Gl.xfo 2 o (List.replicate n o) = true := by
  unfold Gl.xfo
  rw [if_neg (by decide), if_pos rfl, List.all_eq_true]
  intro a ha
  obtain rfl := List.eq_of_mem_replicate ha
  exact same_self18 _
theorem xfo_deny (o : Gl.Origin) (n : Nat) : Gl.xfo 1 o (List.replicate (n + 1) o) = false := by
  unfold Gl.xfo
  rw [if_pos rfl]
  simp
theorem rem20 (d : Nat) : ((d : Int).tmod 20) = ((d % 20 : Nat) : Int) := rfl
set_option maxRecDepth 100000 in
set_option maxHeartbeats 4000000 in
theorem law18_own (o : Gl.Origin) (va : Value) (As : List Gl.Origin) (d : Int) (w : World) (hE : Env w) (hA : Origs w va As) (hd : -9223372036854775808 ≤ d ∧ d ≤ 9223372036854775807) : Calls Tryd.prog 5 #[(Value.agg #[(Value.bool (o).opaq), (Value.int .i64 (o).id), (Value.string ⟨((o).scheme).toArray⟩), (Value.string ⟨(((o).host).name).toArray⟩), (Value.bool ((o).host).v4), (Value.int .u32 (((o).host).addr : Int)), (Value.int .i64 (o).port)]), va, .int .i64 d] w (Ret w (.bool true)) := by
  have hup := fun W (hW : Below w.heap.size w W) => awake18 W (hE.below hW)
  replace hup := Lib.hid hup
  have hfew := fun W (hW : Below w.heap.size w W) => law18_few o va As W (hA.below hW)
  have hfo : few18P o As = true → As.length ≤ 40 := fun h => (few18_out h).1
  generalize few18P o As = q1 at *
  have hx2 := fun (hl : As.length ≤ 281474976710656) W (hW : Below w.heap.size w W) => embed_xfo 2 o va As W (hA.below hW) hl
  have hx1 := fun (hl : As.length ≤ 281474976710656) W (hW : Below w.heap.size w W) => embed_xfo 1 o va As W (hA.below hW) hl
  have hx0 := fun (hl : As.length ≤ 281474976710656) W (hW : Below w.heap.size w W) => embed_xfo 0 o va As W (hA.below hW) hl
  have hx3 := fun (hl : As.length ≤ 281474976710656) W (hW : Below w.heap.size w W) => embed_xfo 3 o va As W (hA.below hW) hl
  have g0 : Gl.xfo 0 o As = true := rfl
  have g3 : Gl.xfo 3 o As = true := rfl
  have g2 : Gl.xfo 2 o As = As.all (fun a => Gl.originSame o a) := rfl
  have g1 : Gl.xfo 1 o As = decide (As.length = 0) := by unfold Gl.xfo; rw [if_pos rfl]; congr 1; rw [List.length_eq_zero_iff]
  rw [g0] at hx0
  rw [g3] at hx3
  rw [g2] at hx2
  rw [g1] at hx1
  clear g0 g1 g2 g3
  generalize hR : As.all (fun a => Gl.originSame o a) = R at *
  generalize hzq : decide (As.length = 0) = z at *
  replace hzq := Lib.hid hzq
  replace hR := Lib.hid hR
  have hown : ∀ n v W, Slots W W.heap.size v 7 ((List.replicate (n + 1) o).map ocells) → n < 20 → Calls Tryd.prog 10 #[.int .i64 2, (Value.agg #[(Value.bool (o).opaq), (Value.int .i64 (o).id), (Value.string ⟨((o).scheme).toArray⟩), (Value.string ⟨(((o).host).name).toArray⟩), (Value.bool ((o).host).v4), (Value.int .u32 (((o).host).addr : Int)), (Value.int .i64 (o).port)]), v] W (Ret W (.bool true)) := fun n v W hv hn => by
    have := embed_xfo 2 o v (List.replicate (n + 1) o) W hv (by simp; omega)
    rw [xfo_own] at this
    exact this
  have hdeny : ∀ n v W, Slots W W.heap.size v 7 ((List.replicate (n + 1) o).map ocells) → n < 20 → Calls Tryd.prog 10 #[.int .i64 1, (Value.agg #[(Value.bool (o).opaq), (Value.int .i64 (o).id), (Value.string ⟨((o).scheme).toArray⟩), (Value.string ⟨(((o).host).name).toArray⟩), (Value.bool ((o).host).v4), (Value.int .u32 (((o).host).addr : Int)), (Value.int .i64 (o).port)]), v] W (Ret W (.bool false)) := fun n v W hv hn => by
    have := embed_xfo 1 o v (List.replicate (n + 1) o) W hv (by simp; omega)
    rw [xfo_deny] at this
    exact this
  have hsame := fun a W => origin_same o a W
  replace hfew := Lib.hid hfew
  replace hfo := Lib.hid hfo
  replace hx0 := Lib.hid hx0
  replace hx1 := Lib.hid hx1
  replace hx2 := Lib.hid hx2
  replace hx3 := Lib.hid hx3
  replace hown := Lib.hid hown
  replace hdeny := Lib.hid hdeny
  replace hsame := Lib.hid hsame
  have H2 := Lib.hid hA
  obtain ⟨A2, c2, rfl⟩ := hA.form
  clear hA
  cases q1
  · go_enter Tryd.func5, Tryd.ntmps5
    go_wp2_with (first | (go_at_call 6; refine ( hup.out _ (by (repeat' first | (with_reducible exact Below.refl _ _) | (with_reducible refine Below.setCell ?_ (by first | omega | (simp; done) | (simp; omega)) _) | (with_reducible refine Below.alloc ?_ (by first | omega | (simp; done) | (simp; omega)) _) | refine below_drewN ?_ _ | refine Below.drew ?_ | (refine below_thru (by assumption) ?_ (by first | omega | (simp; done) | (simp; omega))) | exact Below.refl _ _))).mono ?_; rintro e w1 ⟨rfl, hb⟩; obtain ⟨hc, hfz⟩ := bcell hb; have hz := hb.size; (try simp at hz); (try have hz0 : w.heap.size < w1.heap.size := by omega); (try have hz1 : w.heap.size + 1 < w1.heap.size := by omega); (try have hz2 : w.heap.size + 2 < w1.heap.size := by omega); (try have hz3 : w.heap.size + 3 < w1.heap.size := by omega); (try have hcA := fun o => hc w.heap.size o (by first | omega | (simp; omega))); (try have hcB := fun o => hc (w.heap.size + 1) o (by first | omega | (simp; omega)))) | (go_at_call 8; refine ( hfew.out _ (by (repeat' first | (with_reducible exact Below.refl _ _) | (with_reducible refine Below.setCell ?_ (by first | omega | (simp; done) | (simp; omega)) _) | (with_reducible refine Below.alloc ?_ (by first | omega | (simp; done) | (simp; omega)) _) | refine below_drewN ?_ _ | refine Below.drew ?_ | (refine below_thru (by assumption) ?_ (by first | omega | (simp; done) | (simp; omega))) | exact Below.refl _ _))).mono ?_; rintro e w1 ⟨rfl, hb⟩; obtain ⟨hc, hfz⟩ := bcell hb; have hz := hb.size; (try simp at hz); (try have hz0 : w.heap.size < w1.heap.size := by omega); (try have hz1 : w.heap.size + 1 < w1.heap.size := by omega); (try have hz2 : w.heap.size + 2 < w1.heap.size := by omega); (try have hz3 : w.heap.size + 3 < w1.heap.size := by omega); (try have hcA := fun o => hc w.heap.size o (by first | omega | (simp; omega))); (try have hcB := fun o => hc (w.heap.size + 1) o (by first | omega | (simp; omega)))))
    go_ret
    exact ⟨rfl, by (repeat' first | (with_reducible exact Below.refl _ _) | (with_reducible refine Below.setCell ?_ (by first | omega | (simp; done) | (simp; omega)) _) | (with_reducible refine Below.alloc ?_ (by first | omega | (simp; done) | (simp; omega)) _) | refine below_drewN ?_ _ | refine Below.drew ?_ | (refine below_thru (by assumption) ?_ (by first | omega | (simp; done) | (simp; omega))) | exact Below.refl _ _)⟩
  have hAl := hfo.out rfl
  replace hx0 := Lib.hid (hx0.out (by omega))
  replace hx1 := Lib.hid (hx1.out (by omega))
  replace hx2 := Lib.hid (hx2.out (by omega))
  replace hx3 := Lib.hid (hx3.out (by omega))
  obtain ⟨i1, hi1, hz3, hz4, hz5⟩ := info_parts Tryd.infoOrigin
  go_enter Tryd.func5, Tryd.ntmps5
  go_upto_region 1 with fail
  generalize hW0 : (w.alloc (Obj.cells #[(Value.bool (o).opaq), (Value.int .i64 (o).id), (Value.string ⟨((o).scheme).toArray⟩), (Value.string ⟨(((o).host).name).toArray⟩), (Value.bool ((o).host).v4), (Value.int .u32 (((o).host).addr : Int)), (Value.int .i64 (o).port)] 34)) = W0
  have hw0 : Below w.heap.size w W0 := by rw [← hW0]; (repeat' first | (with_reducible exact Below.refl _ _) | (with_reducible refine Below.setCell ?_ (by first | omega | (simp; done) | (simp; omega)) _) | (with_reducible refine Below.alloc ?_ (by first | omega | (simp; done) | (simp; omega)) _) | refine below_drewN ?_ _ | refine Below.drew ?_ | (refine below_thru (by assumption) ?_ (by first | omega | (simp; done) | (simp; omega))) | exact Below.refl _ _)
  have hBO : Blk W0 (w.heap.size) 34 #[(Value.bool (o).opaq), (Value.int .i64 (o).id), (Value.string ⟨((o).scheme).toArray⟩), (Value.string ⟨(((o).host).name).toArray⟩), (Value.bool ((o).host).v4), (Value.int .u32 (((o).host).addr : Int)), (Value.int .i64 (o).port)] := by rw [← hW0]; exact (Blk.new _ _ _)
  clear hW0
  have hwz := hw0.size
  have hOl := hBO.lt
  have hOc := hBO.cell
  have hOf := hBO.frozen
  go_upto_if 24 with (first | (go_at_call 6; refine ( hup.out _ (by (repeat' first | (with_reducible exact Below.refl _ _) | (with_reducible refine Below.setCell ?_ (by first | omega | (simp; done) | (simp; omega)) _) | (with_reducible refine Below.alloc ?_ (by first | omega | (simp; done) | (simp; omega)) _) | refine below_drewN ?_ _ | refine Below.drew ?_ | (refine below_thru (by assumption) ?_ (by first | omega | (simp; done) | (simp; omega))) | exact Below.refl _ _))).mono ?_; rintro e w1 ⟨rfl, hb⟩; obtain ⟨hc, hfz⟩ := bcell hb; have hz := hb.size; (try simp at hz); (try have hz0 : w.heap.size < w1.heap.size := by omega); (try have hz1 : w.heap.size + 1 < w1.heap.size := by omega); (try have hz2 : w.heap.size + 2 < w1.heap.size := by omega); (try have hz3 : w.heap.size + 3 < w1.heap.size := by omega); (try have hcA := fun o => hc w.heap.size o (by first | omega | (simp; omega))); (try have hcB := fun o => hc (w.heap.size + 1) o (by first | omega | (simp; omega)))) | (go_at_call 8; refine ( hfew.out _ (by (repeat' first | (with_reducible exact Below.refl _ _) | (with_reducible refine Below.setCell ?_ (by first | omega | (simp; done) | (simp; omega)) _) | (with_reducible refine Below.alloc ?_ (by first | omega | (simp; done) | (simp; omega)) _) | refine below_drewN ?_ _ | refine Below.drew ?_ | (refine below_thru (by assumption) ?_ (by first | omega | (simp; done) | (simp; omega))) | exact Below.refl _ _))).mono ?_; rintro e w1 ⟨rfl, hb⟩; obtain ⟨hc, hfz⟩ := bcell hb; have hz := hb.size; (try simp at hz); (try have hz0 : w.heap.size < w1.heap.size := by omega); (try have hz1 : w.heap.size + 1 < w1.heap.size := by omega); (try have hz2 : w.heap.size + 2 < w1.heap.size := by omega); (try have hz3 : w.heap.size + 3 < w1.heap.size := by omega); (try have hcA := fun o => hc w.heap.size o (by first | omega | (simp; omega))); (try have hcB := fun o => hc (w.heap.size + 1) o (by first | omega | (simp; omega)))))
  go_cut [2] from 16 (fun x2 w' => ∃ n : Nat, x2 = .int .i64 n ∧ Below w.heap.size w w' ∧ Blk w' (w.heap.size) 34 #[(Value.bool (o).opaq), (Value.int .i64 (o).id), (Value.string ⟨((o).scheme).toArray⟩), (Value.string ⟨(((o).host).name).toArray⟩), (Value.bool ((o).host).v4), (Value.int .u32 (((o).host).addr : Int)), (Value.int .i64 (o).port)])
  case first =>
    by_cases hneg : d < 0
    · have hs1 : IntKind.i64.wrap (d + 1) = d + 1 := IntWalk.i64_in _ (by omega)
      have hs2 : IntKind.i64.wrap (-(d + 1)) = -(d + 1) := IntWalk.i64_in _ (by omega)
      go_wp2_with fail
      go_meet
      case rel => exact ⟨(-(d + 1)).toNat, by rw [show (((-(d + 1)).toNat : Nat) : Int) = -(d + 1) by omega] <;> (first | done | (simp; omega) | omega), by (repeat' first | (with_reducible exact Below.refl _ _) | (with_reducible refine Below.setCell ?_ (by first | omega | (simp; done) | (simp; omega)) _) | (with_reducible refine Below.alloc ?_ (by first | omega | (simp; done) | (simp; omega)) _) | refine below_drewN ?_ _ | refine Below.drew ?_ | (refine below_thru (by assumption) ?_ (by first | omega | (simp; done) | (simp; omega))) | exact Below.refl _ _), by (repeat' first | (with_reducible assumption) | (with_reducible exact Blk.new _ _ _) | (with_reducible refine Blk.drew_ ?_) | (with_reducible refine Blk.alloc ?_ _) | (refine Blk.below ?_ (by assumption) (by first | omega | (simp; done) | (simp; omega))))⟩
    · go_wp2_with fail
      go_meet
      case rel => exact ⟨d.toNat, by rw [show ((d.toNat : Nat) : Int) = d by omega], by (repeat' first | (with_reducible exact Below.refl _ _) | (with_reducible refine Below.setCell ?_ (by first | omega | (simp; done) | (simp; omega)) _) | (with_reducible refine Below.alloc ?_ (by first | omega | (simp; done) | (simp; omega)) _) | refine below_drewN ?_ _ | refine Below.drew ?_ | (refine below_thru (by assumption) ?_ (by first | omega | (simp; done) | (simp; omega))) | exact Below.refl _ _), by (repeat' first | (with_reducible assumption) | (with_reducible exact Blk.new _ _ _) | (with_reducible refine Blk.drew_ ?_) | (with_reducible refine Blk.alloc ?_ _) | (refine Blk.below ?_ (by assumption) (by first | omega | (simp; done) | (simp; omega))))⟩
  case rest =>
  clear hw0 hwz hOl hOc hOf hBO hup
  obtain ⟨n, rfl, hw0, hBO⟩ := hcut
  have hwz := hw0.size
  have hOl := hBO.lt
  have hOc := hBO.cell
  have hOf := hBO.frozen
  have hrem : ((n : Int).tmod 20) = ((n % 20 : Nat) : Int) := rem20 n
  generalize hm : n % 20 = m at *
  have hm20 : m < 20 := by omega
  clear hm
  go_wp2_with fail
  go_loopw [9, 10] (fun v i wr => ∃ k : Nat, k ≤ m + 1 ∧ i = .int .i64 k ∧ OwnS wr (w.heap.size + 1) 34 7 v ((List.replicate k o).map ocells) ∧ Below w.heap.size w wr ∧ Blk wr (w.heap.size) 34 #[(Value.bool (o).opaq), (Value.int .i64 (o).id), (Value.string ⟨((o).scheme).toArray⟩), (Value.string ⟨(((o).host).name).toArray⟩), (Value.bool ((o).host).v4), (Value.int .u32 (((o).host).addr : Int)), (Value.int .i64 (o).port)]) (fun _ i _ => m + 1 - (intOf i).toNat)
  case atStart => exact ⟨0, by omega, rfl, OwnS.nil _ _ _ _, by (repeat' first | (with_reducible exact Below.refl _ _) | (with_reducible refine Below.setCell ?_ (by first | omega | (simp; done) | (simp; omega)) _) | (with_reducible refine Below.alloc ?_ (by first | omega | (simp; done) | (simp; omega)) _) | refine below_drewN ?_ _ | refine Below.drew ?_ | (refine below_thru (by assumption) ?_ (by first | omega | (simp; done) | (simp; omega))) | exact Below.refl _ _), by (repeat' first | (with_reducible assumption) | (with_reducible exact Blk.new _ _ _) | (with_reducible refine Blk.drew_ ?_) | (with_reducible refine Blk.alloc ?_ _) | (refine Blk.below ?_ (by assumption) (by first | omega | (simp; done) | (simp; omega))))⟩
  case round =>
    clear hw0 hwz hOl hOc hOf hBO
    obtain ⟨k, hk, rfl, hown1, hw0, hBO⟩ := hrel
    have hwz := hw0.size
    have hOl := hBO.lt
    have hOc := hBO.cell
    have hOf := hBO.frozen
    by_cases hlt : k ≤ m
    · go_wp2_with (at_builtin; refine wpList_cat rfl (.tmp 34) (.tmp 36) 35 rfl (w.heap.size + 1) 34 i1 _ 7 64 Tryd.underlying35 hi1 hz3 hz4 hz5 rfl (by decide) _ _ rfl (hown1.keep ((Below.refl _ _).alloc (Nat.le_refl _) _) (Nat.le_refl _)) _ _ [ocells o] rfl (Blk.oneSlot (t := 34) (c := #[(Value.bool (o).opaq), (Value.int .i64 (o).id), (Value.string ⟨((o).scheme).toArray⟩), (Value.string ⟨(((o).host).name).toArray⟩), (Value.bool ((o).host).v4), (Value.int .u32 (((o).host).addr : Int)), (Value.int .i64 (o).port)]) (Blk.new _ _ _)) (orow_sizes (L := [o])) (orow_ones (L := [o])) (by simp [maxLen]; omega) (by simp; omega) (by simp; omega) ?_; intro v2 wB hown2 hbB hgrB)
      have hown3 : OwnS wB (w.heap.size + 1) 34 7 v2 ((List.replicate (k + 1) o).map ocells) := by
        rw [List.replicate_succ', List.map_append]
        exact hown2
      go_roundw
      case rel => exact ⟨k + 1, by omega, by go_num, hown3, by (repeat' first | (with_reducible exact Below.refl _ _) | (with_reducible refine Below.drew ?_) | (with_reducible refine Below.alloc ?_ (by first | omega | (simp; done) | (simp; omega)) _) | (refine below_own2 (by assumption) ?_ (by first | omega | (simp; done) | (simp; omega))) | exact Below.refl _ _), by (repeat' first | (with_reducible assumption) | (with_reducible exact Blk.new _ _ _) | (with_reducible refine Blk.drew_ ?_) | (with_reducible refine Blk.alloc ?_ _) | (refine Blk.grown ?_ (by assumption) (by simp [Value.ownBlock]; omega)) | (refine Blk.below ?_ (by assumption) (by first | omega | (simp; done) | (simp; omega))))⟩
      case measure => simp [intOf]; omega
    · have e1 : k = m + 1 := by omega
      have hS := hown1.slots
      have hown2 : ∀ v W, Slots W W.heap.size v 7 ((List.replicate k o).map ocells) → Calls Tryd.prog 10 #[.int .i64 2, (Value.agg #[(Value.bool (o).opaq), (Value.int .i64 (o).id), (Value.string ⟨((o).scheme).toArray⟩), (Value.string ⟨(((o).host).name).toArray⟩), (Value.bool ((o).host).v4), (Value.int .u32 (((o).host).addr : Int)), (Value.int .i64 (o).port)]), v] W (Ret W (.bool true)) := fun v W hv => hown.out m v W (by rw [← e1]; exact hv) hm20
      have hdeny2 : ∀ v W, Slots W W.heap.size v 7 ((List.replicate k o).map ocells) → Calls Tryd.prog 10 #[.int .i64 1, (Value.agg #[(Value.bool (o).opaq), (Value.int .i64 (o).id), (Value.string ⟨((o).scheme).toArray⟩), (Value.string ⟨(((o).host).name).toArray⟩), (Value.bool ((o).host).v4), (Value.int .u32 (((o).host).addr : Int)), (Value.int .i64 (o).port)]), v] W (Ret W (.bool false)) := fun v W hv => hdeny.out m v W (by rw [← e1]; exact hv) hm20
      clear hown1 hown hdeny e1
      generalize List.replicate k o = L at *
      replace hown2 := Lib.hid hown2
      replace hdeny2 := Lib.hid hdeny2
      obtain ⟨A5, c5, rfl⟩ := (show Origs wr _ L from hS).form
      go_wp2_with fail
      go_loopw [11, 12, 13] (fun b i _ wr => ∃ (k : Nat) (b0 : Bool), k ≤ As.length ∧ i = .int .i64 k ∧ b = .bool b0 ∧ Slots wr wr.heap.size (.slice A5 L.length c5) 7 (L.map ocells) ∧ Below w.heap.size w wr ∧ Blk wr (w.heap.size) 34 #[(Value.bool (o).opaq), (Value.int .i64 (o).id), (Value.string ⟨((o).scheme).toArray⟩), (Value.string ⟨(((o).host).name).toArray⟩), (Value.bool ((o).host).v4), (Value.int .u32 (((o).host).addr : Int)), (Value.int .i64 (o).port)] ∧ Hid ((b0 && (As.drop k).all (fun a => Gl.originSame o a)) = R)) (fun _ i _ _ => As.length - (intOf i).toNat)
      case atStart => exact ⟨0, true, Nat.zero_le _, rfl, rfl, hS, by (repeat' first | (with_reducible exact Below.refl _ _) | (with_reducible refine Below.setCell ?_ (by first | omega | (simp; done) | (simp; omega)) _) | (with_reducible refine Below.alloc ?_ (by first | omega | (simp; done) | (simp; omega)) _) | refine below_drewN ?_ _ | refine Below.drew ?_ | (refine below_thru (by assumption) ?_ (by first | omega | (simp; done) | (simp; omega))) | exact Below.refl _ _), by (repeat' first | (with_reducible assumption) | (with_reducible exact Blk.new _ _ _) | (with_reducible refine Blk.drew_ ?_) | (with_reducible refine Blk.alloc ?_ _) | (refine Blk.below ?_ (by assumption) (by first | omega | (simp; done) | (simp; omega)))), Lib.hid (by rw [← hR.out]; rfl)⟩
      case round =>
        clear hw0 hwz hOl hOc hOf hBO hS hR
        obtain ⟨j, b0, hj2, rfl, rfl, hS, hw0, hBO, hr⟩ := hrel
        replace hS := Lib.hid hS
        have hwz := hw0.size
        have hOl := hBO.lt
        have hOc := hBO.cell
        have hOf := hBO.frozen
        by_cases hlt2 : j < As.length
        · obtain ⟨sb, so, sd, he, hsB, hcell⟩ := H2.out.cells j hlt2
          injection he with he1 he2 he3
          subst he1 he3
          have hx := fun (W : World) (hW : Below w.heap.size w W) (n : Nat) (hn : n < 7) => (hW.cell (p := ⟨sb, so + j * 7 + n, none⟩) hsB).trans (hcell n hn)
          clear hcell
          have hsm := fun W => hsame.out As[j] W
          rw [drop_consX hlt2, List.all_cons] at hr
          generalize As[j] = x at *
          simp only [ocells] at hx
          have hx0 := fun (W : World) (hW : Below w.heap.size w W) => hx W hW 0 (by decide)
          have hx1 := fun (W : World) (hW : Below w.heap.size w W) => hx W hW 1 (by decide)
          have hx2 := fun (W : World) (hW : Below w.heap.size w W) => hx W hW 2 (by decide)
          have hx3 := fun (W : World) (hW : Below w.heap.size w W) => hx W hW 3 (by decide)
          have hx4 := fun (W : World) (hW : Below w.heap.size w W) => hx W hW 4 (by decide)
          have hx5 := fun (W : World) (hW : Below w.heap.size w W) => hx W hW 5 (by decide)
          have hx6 := fun (W : World) (hW : Below w.heap.size w W) => hx W hW 6 (by decide)
          clear hx
          generalize Gl.originSame o x = q at *
          replace hsm := Lib.hid hsm
          have hr3 : Hid (((b0 && q) && (As.drop (j + 1)).all (fun a => Gl.originSame o a)) = R) := Lib.hid (by rw [← hr.out, Bool.and_assoc])
          clear hr
          cases b0 <;> cases q
          all_goals
            go_upto_region 16 with fail
            go_region_held3 (fun W => Below w.heap.size w W ∧ w.heap.size ≤ W.heap.size ∧ w.heap.size < W.heap.size ∧ (∀ n0, W.cell? ⟨w.heap.size, n0, none⟩ = (#[(Value.bool (o).opaq), (Value.int .i64 (o).id), (Value.string ⟨((o).scheme).toArray⟩), (Value.string ⟨(((o).host).name).toArray⟩), (Value.bool ((o).host).v4), (Value.int .u32 (((o).host).addr : Int)), (Value.int .i64 (o).port)] : Array Value)[n0]?) ∧ W.cell? ⟨sb, so + j * 7, none⟩ = some (.bool x.opaq) ∧ W.cell? ⟨sb, so + j * 7 + 1, none⟩ = some (.int .i64 x.id) ∧ W.cell? ⟨sb, so + j * 7 + 2, none⟩ = some ((Value.string ⟨(x.scheme).toArray⟩)) ∧ W.cell? ⟨sb, so + j * 7 + 3, none⟩ = some ((Value.string ⟨(x.host.name).toArray⟩)) ∧ W.cell? ⟨sb, so + j * 7 + 4, none⟩ = some (.bool x.host.v4) ∧ W.cell? ⟨sb, so + j * 7 + 5, none⟩ = some (.int .u32 (x.host.addr : Int)) ∧ W.cell? ⟨sb, so + j * 7 + 6, none⟩ = some (.int .i64 x.port)) ((refine ⟨by (repeat' first | (with_reducible exact Below.refl _ _) | (with_reducible refine Below.setCell ?_ (by first | omega | (simp; done) | (simp; omega)) _) | (with_reducible refine Below.alloc ?_ (by first | omega | (simp; done) | (simp; omega)) _) | refine below_drewN ?_ _ | refine Below.drew ?_ | (refine below_thru (by assumption) ?_ (by first | omega | (simp; done) | (simp; omega))) | exact Below.refl _ _), by first | omega | (simp; omega), by first | omega | (simp; omega), by exact Blk.cell (t := 34) (by (repeat' first | (with_reducible assumption) | (with_reducible exact Blk.new _ _ _) | (with_reducible refine Blk.drew_ ?_) | (with_reducible refine Blk.alloc ?_ _) | (refine Blk.below ?_ (by assumption) (by first | omega | (simp; done) | (simp; omega))))), hx0 _ (by (repeat' first | (with_reducible exact Below.refl _ _) | (with_reducible refine Below.setCell ?_ (by first | omega | (simp; done) | (simp; omega)) _) | (with_reducible refine Below.alloc ?_ (by first | omega | (simp; done) | (simp; omega)) _) | refine below_drewN ?_ _ | refine Below.drew ?_ | (refine below_thru (by assumption) ?_ (by first | omega | (simp; done) | (simp; omega))) | exact Below.refl _ _)), hx1 _ (by (repeat' first | (with_reducible exact Below.refl _ _) | (with_reducible refine Below.setCell ?_ (by first | omega | (simp; done) | (simp; omega)) _) | (with_reducible refine Below.alloc ?_ (by first | omega | (simp; done) | (simp; omega)) _) | refine below_drewN ?_ _ | refine Below.drew ?_ | (refine below_thru (by assumption) ?_ (by first | omega | (simp; done) | (simp; omega))) | exact Below.refl _ _)), hx2 _ (by (repeat' first | (with_reducible exact Below.refl _ _) | (with_reducible refine Below.setCell ?_ (by first | omega | (simp; done) | (simp; omega)) _) | (with_reducible refine Below.alloc ?_ (by first | omega | (simp; done) | (simp; omega)) _) | refine below_drewN ?_ _ | refine Below.drew ?_ | (refine below_thru (by assumption) ?_ (by first | omega | (simp; done) | (simp; omega))) | exact Below.refl _ _)), hx3 _ (by (repeat' first | (with_reducible exact Below.refl _ _) | (with_reducible refine Below.setCell ?_ (by first | omega | (simp; done) | (simp; omega)) _) | (with_reducible refine Below.alloc ?_ (by first | omega | (simp; done) | (simp; omega)) _) | refine below_drewN ?_ _ | refine Below.drew ?_ | (refine below_thru (by assumption) ?_ (by first | omega | (simp; done) | (simp; omega))) | exact Below.refl _ _)), hx4 _ (by (repeat' first | (with_reducible exact Below.refl _ _) | (with_reducible refine Below.setCell ?_ (by first | omega | (simp; done) | (simp; omega)) _) | (with_reducible refine Below.alloc ?_ (by first | omega | (simp; done) | (simp; omega)) _) | refine below_drewN ?_ _ | refine Below.drew ?_ | (refine below_thru (by assumption) ?_ (by first | omega | (simp; done) | (simp; omega))) | exact Below.refl _ _)), hx5 _ (by (repeat' first | (with_reducible exact Below.refl _ _) | (with_reducible refine Below.setCell ?_ (by first | omega | (simp; done) | (simp; omega)) _) | (with_reducible refine Below.alloc ?_ (by first | omega | (simp; done) | (simp; omega)) _) | refine below_drewN ?_ _ | refine Below.drew ?_ | (refine below_thru (by assumption) ?_ (by first | omega | (simp; done) | (simp; omega))) | exact Below.refl _ _)), hx6 _ (by (repeat' first | (with_reducible exact Below.refl _ _) | (with_reducible refine Below.setCell ?_ (by first | omega | (simp; done) | (simp; omega)) _) | (with_reducible refine Below.alloc ?_ (by first | omega | (simp; done) | (simp; omega)) _) | refine below_drewN ?_ _ | refine Below.drew ?_ | (refine below_thru (by assumption) ?_ (by first | omega | (simp; done) | (simp; omega))) | exact Below.refl _ _))⟩)) (first | (go_at_call 9; refine ( hsm.out _).mono ?_; rintro e w1 ⟨rfl, hb⟩; obtain ⟨hc, hfz⟩ := bcell hb; have hz := hb.size; (try simp at hz); (try have hz0 : w.heap.size < w1.heap.size := by omega); (try have hz1 : w.heap.size + 1 < w1.heap.size := by omega); (try have hz2 : w.heap.size + 2 < w1.heap.size := by omega); (try have hz3 : w.heap.size + 3 < w1.heap.size := by omega); (try have hcA := fun o => hc w.heap.size o (by first | omega | (simp; omega))); (try have hcB := fun o => hc (w.heap.size + 1) o (by first | omega | (simp; omega)))))
            all_goals go_wp2_with fail
            all_goals go_roundw
            case rel => exact ⟨j + 1, _, by omega, by go_num, rfl, hS.out.below (by (repeat' first | (with_reducible exact Below.refl _ _) | (with_reducible refine Below.setCell ?_ (by first | omega | (simp; done) | (simp; omega)) _) | (with_reducible refine Below.alloc ?_ (by first | omega | (simp; done) | (simp; omega)) _) | refine below_drewN ?_ _ | refine Below.drew ?_ | (refine below_thru (by assumption) ?_ (by first | omega | (simp; done) | (simp; omega))) | exact Below.refl _ _)), by (repeat' first | (with_reducible exact Below.refl _ _) | (with_reducible refine Below.setCell ?_ (by first | omega | (simp; done) | (simp; omega)) _) | (with_reducible refine Below.alloc ?_ (by first | omega | (simp; done) | (simp; omega)) _) | refine below_drewN ?_ _ | refine Below.drew ?_ | (refine below_thru (by assumption) ?_ (by first | omega | (simp; done) | (simp; omega))) | exact Below.refl _ _), by (repeat' first | (with_reducible assumption) | (with_reducible exact Blk.new _ _ _) | (with_reducible refine Blk.drew_ ?_) | (with_reducible refine Blk.alloc ?_ _) | (refine Blk.below ?_ (by assumption) (by first | omega | (simp; done) | (simp; omega)))), hr3⟩
            case measure => simp [intOf]; omega
        · rw [List.drop_eq_nil_of_le (by omega)] at hr
          obtain rfl : b0 = R := by rw [← hr.out]; simp
          clear hr hj2
          have h0b : ((As.length : Int) == 0) = z := by
            rw [← hzq.out, Bool.eq_iff_iff, beq_iff_eq, decide_eq_true_eq]
            omega
          clear hzq hAl
          cases z <;> cases b0
          all_goals
            go_wp2_with (first | (go_at_call 10; refine ( hown2.out _ _ (hS.out.below (by (repeat' first | (with_reducible exact Below.refl _ _) | (with_reducible refine Below.setCell ?_ (by first | omega | (simp; done) | (simp; omega)) _) | (with_reducible refine Below.alloc ?_ (by first | omega | (simp; done) | (simp; omega)) _) | refine below_drewN ?_ _ | refine Below.drew ?_ | (refine below_thru (by assumption) ?_ (by first | omega | (simp; done) | (simp; omega))) | exact Below.refl _ _)))).mono ?_; rintro e w1 ⟨rfl, hb⟩; obtain ⟨hc, hfz⟩ := bcell hb; have hz := hb.size; (try simp at hz); (try have hz0 : w.heap.size < w1.heap.size := by omega); (try have hz1 : w.heap.size + 1 < w1.heap.size := by omega); (try have hz2 : w.heap.size + 2 < w1.heap.size := by omega); (try have hz3 : w.heap.size + 3 < w1.heap.size := by omega); (try have hcA := fun o => hc w.heap.size o (by first | omega | (simp; omega))); (try have hcB := fun o => hc (w.heap.size + 1) o (by first | omega | (simp; omega)))) | (go_at_call 10; refine ( hdeny2.out _ _ (hS.out.below (by (repeat' first | (with_reducible exact Below.refl _ _) | (with_reducible refine Below.setCell ?_ (by first | omega | (simp; done) | (simp; omega)) _) | (with_reducible refine Below.alloc ?_ (by first | omega | (simp; done) | (simp; omega)) _) | refine below_drewN ?_ _ | refine Below.drew ?_ | (refine below_thru (by assumption) ?_ (by first | omega | (simp; done) | (simp; omega))) | exact Below.refl _ _)))).mono ?_; rintro e w1 ⟨rfl, hb⟩; obtain ⟨hc, hfz⟩ := bcell hb; have hz := hb.size; (try simp at hz); (try have hz0 : w.heap.size < w1.heap.size := by omega); (try have hz1 : w.heap.size + 1 < w1.heap.size := by omega); (try have hz2 : w.heap.size + 2 < w1.heap.size := by omega); (try have hz3 : w.heap.size + 3 < w1.heap.size := by omega); (try have hcA := fun o => hc w.heap.size o (by first | omega | (simp; omega))); (try have hcB := fun o => hc (w.heap.size + 1) o (by first | omega | (simp; omega)))) | (go_at_call 10; refine ( hx2.out _ (by (repeat' first | (with_reducible exact Below.refl _ _) | (with_reducible refine Below.setCell ?_ (by first | omega | (simp; done) | (simp; omega)) _) | (with_reducible refine Below.alloc ?_ (by first | omega | (simp; done) | (simp; omega)) _) | refine below_drewN ?_ _ | refine Below.drew ?_ | (refine below_thru (by assumption) ?_ (by first | omega | (simp; done) | (simp; omega))) | exact Below.refl _ _))).mono ?_; rintro e w1 ⟨rfl, hb⟩; obtain ⟨hc, hfz⟩ := bcell hb; have hz := hb.size; (try simp at hz); (try have hz0 : w.heap.size < w1.heap.size := by omega); (try have hz1 : w.heap.size + 1 < w1.heap.size := by omega); (try have hz2 : w.heap.size + 2 < w1.heap.size := by omega); (try have hz3 : w.heap.size + 3 < w1.heap.size := by omega); (try have hcA := fun o => hc w.heap.size o (by first | omega | (simp; omega))); (try have hcB := fun o => hc (w.heap.size + 1) o (by first | omega | (simp; omega)))) | (go_at_call 10; refine ( hx1.out _ (by (repeat' first | (with_reducible exact Below.refl _ _) | (with_reducible refine Below.setCell ?_ (by first | omega | (simp; done) | (simp; omega)) _) | (with_reducible refine Below.alloc ?_ (by first | omega | (simp; done) | (simp; omega)) _) | refine below_drewN ?_ _ | refine Below.drew ?_ | (refine below_thru (by assumption) ?_ (by first | omega | (simp; done) | (simp; omega))) | exact Below.refl _ _))).mono ?_; rintro e w1 ⟨rfl, hb⟩; obtain ⟨hc, hfz⟩ := bcell hb; have hz := hb.size; (try simp at hz); (try have hz0 : w.heap.size < w1.heap.size := by omega); (try have hz1 : w.heap.size + 1 < w1.heap.size := by omega); (try have hz2 : w.heap.size + 2 < w1.heap.size := by omega); (try have hz3 : w.heap.size + 3 < w1.heap.size := by omega); (try have hcA := fun o => hc w.heap.size o (by first | omega | (simp; omega))); (try have hcB := fun o => hc (w.heap.size + 1) o (by first | omega | (simp; omega)))) | (go_at_call 10; refine ( hx0.out _ (by (repeat' first | (with_reducible exact Below.refl _ _) | (with_reducible refine Below.setCell ?_ (by first | omega | (simp; done) | (simp; omega)) _) | (with_reducible refine Below.alloc ?_ (by first | omega | (simp; done) | (simp; omega)) _) | refine below_drewN ?_ _ | refine Below.drew ?_ | (refine below_thru (by assumption) ?_ (by first | omega | (simp; done) | (simp; omega))) | exact Below.refl _ _))).mono ?_; rintro e w1 ⟨rfl, hb⟩; obtain ⟨hc, hfz⟩ := bcell hb; have hz := hb.size; (try simp at hz); (try have hz0 : w.heap.size < w1.heap.size := by omega); (try have hz1 : w.heap.size + 1 < w1.heap.size := by omega); (try have hz2 : w.heap.size + 2 < w1.heap.size := by omega); (try have hz3 : w.heap.size + 3 < w1.heap.size := by omega); (try have hcA := fun o => hc w.heap.size o (by first | omega | (simp; omega))); (try have hcB := fun o => hc (w.heap.size + 1) o (by first | omega | (simp; omega)))) | (go_at_call 10; refine ( hx3.out _ (by (repeat' first | (with_reducible exact Below.refl _ _) | (with_reducible refine Below.setCell ?_ (by first | omega | (simp; done) | (simp; omega)) _) | (with_reducible refine Below.alloc ?_ (by first | omega | (simp; done) | (simp; omega)) _) | refine below_drewN ?_ _ | refine Below.drew ?_ | (refine below_thru (by assumption) ?_ (by first | omega | (simp; done) | (simp; omega))) | exact Below.refl _ _))).mono ?_; rintro e w1 ⟨rfl, hb⟩; obtain ⟨hc, hfz⟩ := bcell hb; have hz := hb.size; (try simp at hz); (try have hz0 : w.heap.size < w1.heap.size := by omega); (try have hz1 : w.heap.size + 1 < w1.heap.size := by omega); (try have hz2 : w.heap.size + 2 < w1.heap.size := by omega); (try have hz3 : w.heap.size + 3 < w1.heap.size := by omega); (try have hcA := fun o => hc w.heap.size o (by first | omega | (simp; omega))); (try have hcB := fun o => hc (w.heap.size + 1) o (by first | omega | (simp; omega)))))
            go_ret
            exact ⟨rfl, by (repeat' first | (with_reducible exact Below.refl _ _) | (with_reducible refine Below.setCell ?_ (by first | omega | (simp; done) | (simp; omega)) _) | (with_reducible refine Below.alloc ?_ (by first | omega | (simp; done) | (simp; omega)) _) | refine below_drewN ?_ _ | refine Below.drew ?_ | (refine below_thru (by assumption) ?_ (by first | omega | (simp; done) | (simp; omega))) | exact Below.refl _ _)⟩
end Go.Proofs.YtkfoogmncokjnaaDoor
