/- glacislaw17: GroupsPlays. -/
import Derived.Test.YtbafofldgkigmaaGreatDoorDid17
import Derived.Test.YtbafofldgkigmaaGreatDoorAwake17
namespace Go.Proofs.YtbafofldgkigmaaGreatDoor
open Go.RowKit
attribute [local irreducible] Calls
def kcells (c : Gl.Call) : Array Value := #[.int .i64 c.kind, .int .i64 c.n, .bool c.yes, (Value.bool (c.o).opaq), (Value.int .i64 (c.o).id), (Value.string ⟨((c.o).scheme).toArray⟩), (Value.string ⟨(((c.o).host).name).toArray⟩), (Value.bool ((c.o).host).v4), (Value.int .u32 (((c.o).host).addr : Int)), (Value.int .i64 (c.o).port)]
/-- What the types of a call's numbers allow. -/
structure CallFit (c : Gl.Call) : Prop where
  addr : c.o.host.addr < 4294967296
  port : -9223372036854775808 ≤ c.o.port ∧ c.o.port ≤ 9223372036854775807
  id : -9223372036854775808 ≤ c.o.id ∧ c.o.id ≤ 9223372036854775807
theorem CallFit.wide {c : Gl.Call} (h : CallFit c) (h1 : c.o.host.name.length ≤ 1000) (h2 : c.o.scheme.length ≤ 1000) : OWide c.o := ⟨⟨h.addr, by omega⟩, by omega, h.port⟩
theorem kcell {w : World} {A : Option Addr} {n c : Nat} {L : List Gl.Call} (h : Slots w w.heap.size (.slice A n c) 10 (L.map kcells)) (m : Nat) (hm : m < L.length) : ∃ b o, A = some ⟨b, o, none⟩ ∧ b < w.heap.size ∧ ∀ i, i < 10 → w.cell? ⟨b, o + m * 10 + i, none⟩ = (kcells L[m])[i]? := by
  obtain ⟨b, o, e, hb, hc⟩ := slice_cell h m (by simpa using hm)
  exact ⟨b, o, e, hb, fun i hi => by have := hc i hi; rw [List.getElem_map] at this; exact this⟩
theorem id' {p : Prop} (h : p) : p := h
set_option maxHeartbeats 8000000 in
set_option maxRecDepth 100000 in
theorem law17_plays (most id : Int) (v vs : Value) (L : List Gl.Call) (U : List (List UInt8)) (w : World) (hE : Env w) (hs : Slots w w.heap.size v 10 (L.map kcells)) (hL : ∀ c ∈ L, CallFit c) (hv : Strs w w.heap.size vs U) :
    Calls Tryz.prog 12 #[.int .i64 most, v, vs, .int .i64 id] w (Ret w (.bool true)) := by
  have hsm : ∀ W, Below w.heap.size w W → Calls Tryz.prog 18 #[vs] W (Ret W (.bool (smallS U))) := fun W hW => (law4_small vs U W _ (hv.keep hW)).mono (fun _ _ h => h.ret)
  have hup := fun W (hW : Below w.heap.size w W) => awake17 W (hE.below hW)
  have hsmo := @small_out U
  generalize smallS U = b3 at *
  have hS := Lib.hid hv
  obtain ⟨vA, vc, rfl, hv1, hv2, _⟩ := hv
  unfold maxLen at hv2
  have hs0 := hs
  obtain ⟨A, c, rfl, _⟩ := hs0
  rw [List.length_map] at *
  replace hs := Lib.hid hs
  replace hL := Lib.hid hL
  replace hsm := Lib.hid hsm
  replace hup := Lib.hid hup
  replace hsmo := Lib.hid hsmo
  by_cases hm : most < 1 ∨ 200 < most
  · have hn1 := fun W => groups_new_err W most hm
    have hn2 := fun W => ref17_new_err W most hm
    replace hm := Lib.hid hm
    go_enter Tryz.func12, Tryz.ntmps12
    go_wp2_with (first | ((first | (go_at_call 31; refine (hup.out _ (bw_)).mono ?_) | (go_at_call 32; refine (hn1 _).mono ?_) | (go_at_call 33; refine (hn2 _).mono ?_)); rintro e w1 ⟨rfl, hb⟩; obtain ⟨hc, hfz⟩ := bcell hb; have hz := hb.size; (try simp at hz); (try have hz0 := lt_ hb w.heap.size); (try have hz1 := lt_ hb (w.heap.size + 1)); (try have hz2 := lt_ hb (w.heap.size + 2)); (try have hz3 := lt_ hb (w.heap.size + 3)); (try have hcA := fun o => hc w.heap.size o sz_); (try have hcB := fun o => hc (w.heap.size + 1) o sz_); (try (have i := cf_ hb g; obtain ⟨hcGg, hfGg, hzGg⟩ := i)); (try (have i := cf_ hb gB; obtain ⟨hcGgB, hfGgB, hzGgB⟩ := i))) | (go_at_call 18; refine (hsm.out _ (bw_)).mono ?_; rintro e w1 ⟨rfl, hb⟩; obtain ⟨hc, hfz⟩ := bcell hb; have hz := hb.size; (try simp at hz); (try have hz0 := lt_ hb w.heap.size); (try have hz1 := lt_ hb (w.heap.size + 1)); (try have hz2 := lt_ hb (w.heap.size + 2)); (try have hz3 := lt_ hb (w.heap.size + 3)); (try have hcA := fun o => hc w.heap.size o sz_); (try have hcB := fun o => hc (w.heap.size + 1) o sz_); (try (have i := cf_ hb g; obtain ⟨hcGg, hfGg, hzGg⟩ := i)); (try (have i := cf_ hb gB; obtain ⟨hcGgB, hfGgB, hzGgB⟩ := i)); (try (have i := cf_ hb gC; obtain ⟨hcGgC, hfGgC, hzGgC⟩ := i))))
    go_ret
    exact ⟨rfl, bw_⟩
  · have hm1 : 1 ≤ most := by omega
    have hm2 : most ≤ 200 := by omega
    have hok1 := Gl.Gs.Ok.new hm1 hm2
    go_enter Tryz.func12, Tryz.ntmps12
    go_wp2_with fail
    refine (hup.out _ (bw_)).mono ?_
    rintro e wA ⟨rfl, hbA⟩
    go_wp2_with fail
    refine (groups_new wA most hm1 hm2).mono ?_
    rintro e wB ⟨⟨rfl, hbB⟩, hgB⟩
    go_wp2_with fail
    refine (ref17_new wB most hm1 hm2).mono ?_
    rintro e wC ⟨⟨rfl, hbC⟩, hrC⟩
    have hP : GP wC (wA.heap.size + 3) wA.heap.size (wA.heap.size + 1) (wA.heap.size + 2) (Gl.Gs.new most) := GSt.below (C := []) (A := []) hgB hbC
    have hT : Two wC (wA.heap.size + 3) wA.heap.size (wA.heap.size + 1) (wA.heap.size + 2) wB.heap.size (Gl.Gs.new most) := ⟨hP, ⟨_, _, hrC⟩, hgB.blk.lt⟩
    have hwC : Below w.heap.size w wC := (hbA.trans (hbB.mono hbA.size)).trans (hbC.mono (Nat.le_trans hbA.size hbB.size))
    have hrW : w.heap.size ≤ wA.heap.size := hbA.size
    clear hgB hrC hP hbA hbB hbC
    generalize wA.heap.size + 3 = p at *
    generalize wA.heap.size + 1 = s at *
    generalize wA.heap.size + 2 = t at *
    generalize wA.heap.size = r at *
    generalize wB.heap.size = g at *
    go_wp2_with fail
    refine (hsm.out _ (bw_)).mono ?_
    rintro e wD ⟨rfl, hbD⟩
    have hT := hT.below hbD
    have hwD : Below w.heap.size w wD := hwC.trans (hbD.mono hwC.size)
    clear hbD hwC
    cases b3
    · go_wp2_with fail
      go_ret
      exact ⟨rfl, hwD⟩
    · obtain ⟨hs1, hs2⟩ := hsmo.out rfl
      have hSu : Sufs w (.slice vA U.length vc) U := ⟨hS.out, by omega, fun y hy => by have := hs2 y hy; omega⟩
      replace hSu := Lib.hid hSu
      clear hs2
      go_wp2_with fail
      have hgs : wD.heap.size = wD.heap.size := rfl
      clear hgs hsm hup hsmo
      replace hE := Lib.hid hE
      have hrw : w.heap.size ≤ r := hrW
      go_loopw [15] (fun i wr => ∃ (m : Nat) (S : Gl.Gs), m ≤ 120 ∧ m ≤ L.length ∧ i = .int .i64 m ∧ S.Ok m ∧ Two wr p r s t g S ∧ Below w.heap.size w wr) (fun i _ => L.length - (intOf i).toNat)
      case atStart => exact ⟨0, _, by omega, Nat.zero_le _, rfl, hok1, hT, hwD⟩
      case round =>
        clear hT hwD hok1
        obtain ⟨m, S, hm120, hmL, rfl, hok, hT, hwr⟩ := hrel
        by_cases hmt : m < L.length
        case neg =>
          go_wp2_with fail
          go_ret
          exact ⟨rfl, hwr⟩
        by_cases hm2 : m < 120
        case neg =>
          go_wp2_with fail
          go_ret
          exact ⟨rfl, hwr⟩
        obtain ⟨sb, so, rfl, hsB, hcell⟩ := kcell hs.out m hmt
        have hfit := hL.out _ (List.getElem_mem hmt)
        have hx := fun (n : Nat) (hn : n < 10) => (hwr.cell (p := ⟨sb, so + m * 10 + n, none⟩) hsB).trans (hcell n hn)
        generalize L[m] = x at *
        obtain ⟨kind, n, yes, o⟩ := x
        have c0 := hx 0 (by decide)
        have c1 := hx 1 (by decide)
        have c2 := hx 2 (by decide)
        have c3 := hx 3 (by decide)
        have c4 := hx 4 (by decide)
        have c5 := hx 5 (by decide)
        have c6 := hx 6 (by decide)
        have c7 := hx 7 (by decide)
        have c8 := hx 8 (by decide)
        have c9 := hx 9 (by decide)
        simp only [Nat.add_zero, kcells, List.getElem?_toArray, List.getElem?_cons_zero, List.getElem?_cons_succ] at c0 c1 c2 c3 c4 c5 c6 c7 c8 c9
        clear hcell hx
        have hwz := hwr.size
        obtain ⟨hP, ⟨vG, vC, hR⟩, hpg⟩ := hT
        have hrs := GSt.rs hP
        have hst := GSt.st hP
        have htp := GSt.tg hP
        have hgl := hR.blk.lt
        go_upto_region 13 with fail
        generalize hW1 : wr.alloc (.cells #[.int .i64 kind, .int .i64 n, .bool yes, (Value.bool (o).opaq), (Value.int .i64 (o).id), (Value.string ⟨((o).scheme).toArray⟩), (Value.string ⟨(((o).host).name).toArray⟩), (Value.bool ((o).host).v4), (Value.int .u32 (((o).host).addr : Int)), (Value.int .i64 (o).port)] 72) = W1
        have hb1 : Below wr.heap.size wr W1 := by rw [← hW1]; (exact bw_)
        have hX1 : Blk W1 wr.heap.size 72 #[.int .i64 kind, .int .i64 n, .bool yes, (Value.bool (o).opaq), (Value.int .i64 (o).id), (Value.string ⟨((o).scheme).toArray⟩), (Value.string ⟨(((o).host).name).toArray⟩), (Value.bool ((o).host).v4), (Value.int .u32 (((o).host).addr : Int)), (Value.int .i64 (o).port)] := by rw [← hW1]; exact Blk.new _ _ _
        have hP1 : GP W1 p r s t S := GSt.below hP hb1
        have hR1 := hR.below hb1
        have hnot := hR.not (Nat.le_refl _)
        have hw1 : Below w.heap.size w W1 := hwr.trans (hb1.mono hwz)
        clear hW1 hb1 hP hR c0 c1 c2 c3 c4 c5 c6 c7 c8 c9
        generalize wr.heap.size = gX at *
        have hXc := hX1.cell
        have hXf := hX1.frozen
        have hXl := hX1.lt
        by_cases hnm : 1000 < o.host.name.length
        · go_wp2_with fail
          go_roundw
          case rel => exact ⟨m + 1, S, by omega, by omega, by go_num, hok.more (by omega), ⟨hP1, ⟨_, _, hR1⟩, hpg⟩, hw1⟩
          case measure => simp [intOf]; omega
        by_cases hsc : 1000 < o.scheme.length
        · go_wp2_with fail
          go_roundw
          case rel => exact ⟨m + 1, S, by omega, by omega, by go_num, hok.more (by omega), ⟨hP1, ⟨_, _, hR1⟩, hpg⟩, hw1⟩
          case measure => simp [intOf]; omega
        have ho := hfit.wide (by show o.host.name.length ≤ 1000; omega) (by show o.scheme.length ≤ 1000; omega)
        have hoid := hfit.id
        have hdid := law17_did W1 p r s t g S m hok (by omega) ⟨kind, n, yes, o⟩ (.slice vA U.length vc) U vG vC hP1 hR1 hpg (fun W hW => hSu.out.below (hw1.trans (hW.mono hrw))) (fun W hW => hE.out.below (hw1.trans (hW.mono hrw))) ho hoid
        have hok2 := hok.step ⟨kind, n, yes, o⟩ U
        generalize S.step ⟨kind, n, yes, o⟩ U = S2 at *
        simp only at hdid
        replace hdid := Lib.hid hdid
        clear hP1 hR1 hok hfit ho hoid
        go_upto_region 14 with fail
        go_wp2_with fail
        refine hdid.out.mono ?_
        rintro e W2 ⟨rfl, hbr, hT2, hkp⟩
        clear hdid hXc hXf
        have hX2 : Blk W2 gX 72 #[.int .i64 kind, .int .i64 n, .bool yes, (Value.bool (o).opaq), (Value.int .i64 (o).id), (Value.string ⟨((o).scheme).toArray⟩), (Value.string ⟨(((o).host).name).toArray⟩), (Value.bool ((o).host).v4), (Value.int .u32 (((o).host).addr : Int)), (Value.int .i64 (o).port)] := (hkp gX hXl (by simp; omega) (by omega) hnot.1 hnot.2).trans hX1
        have hw2 : Below w.heap.size w W2 := hw1.trans (hbr.mono hrw)
        clear hkp hnot hX1 hw1 hbr
        obtain ⟨hP2, ⟨vG2, vC2, hR2⟩, _⟩ := hT2
        have hf1 := fun W (hW : Below W2.heap.size W2 W) => groups_find W p r s t S2 (GSt.below hP2 hW) id
        have hf2 := fun W (hW : Below W2.heap.size W2 W) => ref17_find W g vG2 vC2 S2 _ hok2 (hR2.below hW) id
        have hi1 := fun W (hW : Below W2.heap.size W2 W) => GP.isolated (show GP W p r s t S2 from GSt.below hP2 hW) n
        have hi2 := fun W (hW : Below W2.heap.size W2 W) => ref17_isolated W g vG2 vC2 S2 _ hok2 (hR2.below hW) n
        have hal := fun W (hW : Below W2.heap.size W2 W) => groups_all W p r s t S2 _ hok2 (by omega) (GSt.below hP2 hW)
        have hnu := fun W (hW : Below W2.heap.size W2 W) => ref17_numbers W g vG2 vC2 S2 _ hok2 (hR2.below hW)
        have hGl := hok2.gm
        have hLl := hok2.cm
        have hm3 := hok2.m2
        have hT3 := fun W (hW : Below W2.heap.size W2 W) => (⟨GSt.below hP2 hW, ⟨_, _, hR2.below hW⟩, hpg⟩ : Two W p r s t g S2)
        obtain ⟨_, A3, c3, hvC⟩ := hR2.form
        subst hvC
        generalize S2.findC id = fz at *
        obtain ⟨⟨fi, fg, fk, fs⟩, fe⟩ := fz
        generalize Gl.isolated S2.G n = iz at *
        obtain ⟨ib, ie⟩ := iz
        simp only [ccells] at hf1 hf2 hi1 hi2
        replace hf1 := Lib.hid hf1
        replace hf2 := Lib.hid hf2
        replace hi1 := Lib.hid hi1
        replace hi2 := Lib.hid hi2
        replace hal := Lib.hid hal
        replace hnu := Lib.hid hnu
        replace hT3 := Lib.hid hT3
        replace hok2 := Lib.hid hok2
        clear hP2
        go_wp2_with fail
        refine (hf1.out _ (Below.refl _ _)).mono ?_
        rintro e W3 ⟨rfl, hb3⟩
        have hX3 := hX2.below hb3 hX2.lt
        go_upto_region 16 with fail
        generalize hW4 : W3.alloc (.cells #[.int .i64 fi, .int .i64 fg, .string ⟨fk.toArray⟩, .bool fs] 75) = W4
        have hk4 : Below W3.heap.size W3 W4 := by rw [← hW4]; (exact bw_)
        have hB4 : Blk W4 W3.heap.size 75 #[.int .i64 fi, .int .i64 fg, .string ⟨fk.toArray⟩, .bool fs] := by rw [← hW4]; exact Blk.new _ _ _
        have hX4 := hX3.below hk4 hX3.lt
        have hb4 : Below W2.heap.size W2 W4 := hb3.trans (hk4.mono hb3.size)
        clear hW4 hk4 hb3 hX3 hX2
        generalize W3.heap.size = gB at *
        go_wp2_with fail
        refine (hf2.out _ hb4).mono ?_
        rintro e W5 ⟨rfl, hb5⟩
        have hX5 := hX4.below hb5 hX4.lt
        have hB5 := hB4.below hb5 hB4.lt
        have hb5 : Below W2.heap.size W2 W5 := hb4.trans (hb5.mono hb4.size)
        go_upto_region 17 with fail
        generalize hW6 : W5.alloc (.cells #[.int .i64 fi, .int .i64 fg, .string ⟨fk.toArray⟩, .bool fs] 75) = W6
        have hk6 : Below W5.heap.size W5 W6 := by rw [← hW6]; (exact bw_)
        have hC6 : Blk W6 W5.heap.size 75 #[.int .i64 fi, .int .i64 fg, .string ⟨fk.toArray⟩, .bool fs] := by rw [← hW6]; exact Blk.new _ _ _
        have hX6 := hX5.below hk6 hX5.lt
        have hB6 := hB5.below hk6 hB5.lt
        have hb6 : Below W2.heap.size W2 W6 := hb5.trans (hk6.mono hb5.size)
        clear hW6 hk6 hX5 hB5 hX4 hB4 hb4 hb5
        generalize W5.heap.size = gC at *
        have hXc := hX6.cell
        have hXf := hX6.frozen
        go_wp2_with fail
        refine (hi1.out _ hb6).mono ?_
        rintro e W7 ⟨rfl, hb7⟩
        have hX7 := hX6.below hb7 hX6.lt
        have hB7 := hB6.below hb7 hB6.lt
        have hC7 := hC6.below hb7 hC6.lt
        have hb7 : Below W2.heap.size W2 W7 := hb6.trans (hb7.mono hb6.size)
        clear hXc hXf hX6 hB6 hC6 hb6
        have hXc := hX7.cell
        have hXf := hX7.frozen
        go_wp2_with fail
        refine (hi2.out _ hb7).mono ?_
        rintro e W8 ⟨rfl, hb8⟩
        have hB8 := hB7.below hb8 hB7.lt
        have hC8 := hC7.below hb8 hC7.lt
        have hb8 : Below W2.heap.size W2 W8 := hb7.trans (hb8.mono hb7.size)
        clear hXc hXf hX7 hB7 hC7 hb7
        go_wp2_with fail
        refine (hal.out _ hb8).mono ?_
        rintro e W9 ⟨v9, u9, rfl, hv9, hu9, hb9⟩
        have hB9 := hB8.below hb9 hB8.lt
        have hC9 := hC8.below hb9 hC8.lt
        have hb9 : Below W2.heap.size W2 W9 := hb8.trans (hb9.mono hb8.size)
        clear hB8 hC8 hb8
        obtain ⟨A9, c9, e9, _⟩ := id' hv9
        rw [List.length_map] at e9
        obtain ⟨B9, d9, f9, _⟩ := id' hu9
        rw [List.length_map] at f9
        subst e9 f9
        replace hv9 := Lib.hid hv9
        replace hu9 := Lib.hid hu9
        go_wp2_with fail
        refine (hnu.out _ hb9).mono ?_
        rintro e Wa ⟨va, rfl, hva, hba⟩
        have hBa := hB9.below hba hB9.lt
        have hCa := hC9.below hba hC9.lt
        have hva9 := hv9.out.below hba
        have hua9 := hu9.out.below hba
        have hba : Below W2.heap.size W2 Wa := hb9.trans (hba.mono hb9.size)
        clear hB9 hC9 hb9 hv9 hu9
        obtain ⟨Aa, ca, ea, _⟩ := id' hva
        rw [List.length_map] at ea
        subst ea
        have hints := ref16_ints Wa _ _ (S2.G.map (·.1)) (by simpa [icells, Function.comp_def] using hva9) (by simpa [icells, Function.comp_def] using hva) (by simp; omega)
        replace hints := Lib.hid hints
        clear hva9 hva
        replace hua9 := Lib.hid hua9
        go_wp2_with fail
        refine hints.out.mono ?_
        rintro e Wb ⟨rfl, hbb⟩
        have hBb := hBa.below hbb hBa.lt
        have hCb := hCa.below hbb hCa.lt
        have hub9 := hua9.out.below hbb
        have hbb : Below W2.heap.size W2 Wb := hba.trans (hbb.mono hba.size)
        have hRb := hR2.below hbb
        have hsame := ref17_same Wb _ _ S2.L hub9 hRb.C.slots (by omega)
        have hgc := hRb.blk.cell
        have hgf := hRb.blk.frozen
        replace hsame := Lib.hid hsame
        clear hBa hCa hba hua9 hub9 hRb hR2 hints
        go_wp2_with fail
        refine hsame.out.mono ?_
        rintro e Wd ⟨rfl, hbd⟩
        have hBd := hBb.below hbd hBb.lt
        have hCd := hCb.below hbd hCb.lt
        have hbd : Below W2.heap.size W2 Wd := hbb.trans (hbd.mono hbb.size)
        clear hgc hgf hsame hBb hCb hbb
        have hBc := hBd.cell
        have hBf := hBd.frozen
        have hCc := hCd.cell
        have hCf := hCd.frozen
        go_wp2_with fail
        go_roundw
        case rel => exact ⟨m + 1, S2, by omega, by omega, by go_num, hok2.out, hT3.out _ hbd, hw2.trans (hbd.mono hw2.size)⟩
        case measure => simp [intOf]; omega
end Go.Proofs.YtbafofldgkigmaaGreatDoor
