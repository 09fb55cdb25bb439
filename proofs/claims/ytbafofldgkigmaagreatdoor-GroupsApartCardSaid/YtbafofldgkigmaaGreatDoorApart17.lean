/- glacislaw17: GroupsApart. -/
import Derived.Test.YtbafofldgkigmaaGreatDoorPlays17
namespace Go.Proofs.YtbafofldgkigmaaGreatDoor
open Go.RowKit
attribute [local irreducible] Calls
theorem Gl.Gs.Ok.found {S : Gl.Gs} {k : Int} (h : S.Ok k) {c : Gl.Cluster} (hc : c ∈ S.L) : (S.G.map (·.1)).contains c.grp = true ∧ Gl.isolated S.G c.grp = (c.iso, 0) ∧ S.findC c.id = (c, 0) := by
  refine ⟨?_, ?_, ?_⟩
  · rw [List.contains_iff_mem]
    exact List.mem_map.2 ⟨_, lookB_mem (h.iso c hc), rfl⟩
  · unfold Gl.isolated
    rw [h.iso c hc]
  · unfold Gl.Gs.findC
    rw [find_id h.c hc]
theorem step_most (S : Gl.Gs) (c : Gl.Call) (U : List Gl.Bs) : (S.step c U).most = S.most := by
  unfold Gl.Gs.step
  split
  · unfold Gl.Gs.openG; split <;> rfl
  split
  · unfold Gl.Gs.dropG; split <;> rfl
  split
  · unfold Gl.Gs.cluster; split; rfl; split; rfl; split <;> rfl
  · rfl
set_option maxHeartbeats 8000000 in
set_option maxRecDepth 100000 in
theorem law17_apart (most : Int) (v vs : Value) (L : List Gl.Call) (U : List (List UInt8)) (w : World) (hE : Env w) (hs : Slots w w.heap.size v 10 (L.map kcells)) (hL : ∀ c ∈ L, CallFit c) (hv : Strs w w.heap.size vs U) :
    Calls Tryz.prog 13 #[.int .i64 most, v, vs] w (Ret w (.bool true)) := by
  have hsm : ∀ W, Below w.heap.size w W → Calls Tryz.prog 18 #[vs] W (Ret W (.bool (smallS U))) := fun W hW => (law4_small vs U W _ (hv.keep hW)).mono (fun _ _ h => h.ret)
  have hup := fun W (hW : Below w.heap.size w W) => awake17 W (hE.below hW)
  have hsmo := @small_out U
  generalize smallS U = b3 at *
  have hS := Lib.hid hv
  obtain ⟨vA, vc, rfl, hv1, hv2, _⟩ := hv
  unfold maxLen at hv2
  have hs0 := hs
  obtain ⟨A, c, rfl, _⟩ := hs0
  rw [List.length_map] at *
  replace hs := Lib.hid hs
  replace hL := Lib.hid hL
  replace hsm := Lib.hid hsm
  replace hup := Lib.hid hup
  replace hsmo := Lib.hid hsmo
  by_cases hm : most < 1 ∨ 200 < most
  · have hn1 := fun W => groups_new_err W most hm
    replace hm := Lib.hid hm
    go_enter Tryz.func13, Tryz.ntmps13
    go_wp2_with (first | ((first | (go_at_call 31; refine (hup.out _ (bw_)).mono ?_) | (go_at_call 32; refine (hn1 _).mono ?_)); rintro e w1 ⟨rfl, hb⟩; obtain ⟨hc, hfz⟩ := bcell hb; have hz := hb.size; (try simp at hz); (try have hz0 := lt_ hb w.heap.size); (try have hz1 := lt_ hb (w.heap.size + 1)); (try have hz2 := lt_ hb (w.heap.size + 2)); (try have hz3 := lt_ hb (w.heap.size + 3)); (try have hcA := fun o => hc w.heap.size o sz_); (try have hcB := fun o => hc (w.heap.size + 1) o sz_)) | (go_at_call 18; refine (hsm.out _ (bw_)).mono ?_; rintro e w1 ⟨rfl, hb⟩; obtain ⟨hc, hfz⟩ := bcell hb; have hz := hb.size; (try simp at hz); (try have hz0 := lt_ hb w.heap.size); (try have hz1 := lt_ hb (w.heap.size + 1)); (try have hz2 := lt_ hb (w.heap.size + 2)); (try have hz3 := lt_ hb (w.heap.size + 3)); (try have hcA := fun o => hc w.heap.size o sz_); (try have hcB := fun o => hc (w.heap.size + 1) o sz_)))
    go_ret
    exact ⟨rfl, bw_⟩
  · have hm1 : 1 ≤ most := by omega
    have hm2 : most ≤ 200 := by omega
    have hok1 := Gl.Gs.Ok.new hm1 hm2
    go_enter Tryz.func13, Tryz.ntmps13
    go_wp2_with fail
    refine (hup.out _ (bw_)).mono ?_
    rintro e wA ⟨rfl, hbA⟩
    go_wp2_with fail
    refine (groups_new wA most hm1 hm2).mono ?_
    rintro e wB ⟨⟨rfl, hbB⟩, hgB⟩
    have hP : GP wB (wA.heap.size + 3) wA.heap.size (wA.heap.size + 1) (wA.heap.size + 2) (Gl.Gs.new most) := hgB
    have hwB : Below w.heap.size w wB := hbA.trans (hbB.mono hbA.size)
    have hrw : w.heap.size ≤ wA.heap.size := hbA.size
    clear hgB hbA hbB
    generalize wA.heap.size + 3 = p at *
    generalize wA.heap.size + 1 = s at *
    generalize wA.heap.size + 2 = t at *
    generalize wA.heap.size = r at *
    go_wp2_with fail
    refine (hsm.out _ (bw_)).mono ?_
    rintro e wD ⟨rfl, hbD⟩
    have hP : GP wD p r s t (Gl.Gs.new most) := GSt.below hP hbD
    have hwD : Below w.heap.size w wD := hwB.trans (hbD.mono hwB.size)
    clear hbD hwB
    cases b3
    · go_wp2_with fail
      go_ret
      exact ⟨rfl, hwD⟩
    · obtain ⟨hs1, hs2⟩ := hsmo.out rfl
      have hSu : Sufs w (.slice vA U.length vc) U := ⟨hS.out, by omega, fun y hy => by have := hs2 y hy; omega⟩
      replace hSu := Lib.hid hSu
      clear hs2
      go_wp2_with fail
      clear hsm hup hsmo
      replace hE := Lib.hid hE
      have hmost : (Gl.Gs.new most).most = most := rfl
      go_loopw [11] (fun i wr => ∃ (m : Nat) (S : Gl.Gs), m ≤ 120 ∧ m ≤ L.length ∧ i = .int .i64 m ∧ S.Ok m ∧ Hid (S.most = most) ∧ GP wr p r s t S ∧ Below w.heap.size w wr) (fun i _ => L.length - (intOf i).toNat)
      case atStart => exact ⟨0, _, by omega, Nat.zero_le _, rfl, hok1, Lib.hid hmost, hP, hwD⟩
      case round =>
        clear hP hwD hok1 hmost
        obtain ⟨m, S, hm120, hmL, rfl, hok, hmost, hP, hwr⟩ := hrel
        by_cases hgo : m < L.length ∧ m < 120
        case pos =>
          obtain ⟨hmt, hm2⟩ := hgo
          obtain ⟨sb, so, rfl, hsB, hcell⟩ := kcell hs.out m hmt
          have hfit := hL.out _ (List.getElem_mem hmt)
          have hx := fun (n : Nat) (hn : n < 10) => (hwr.cell (p := ⟨sb, so + m * 10 + n, none⟩) hsB).trans (hcell n hn)
          generalize L[m] = x at *
          obtain ⟨kind, n, yes, o⟩ := x
          have c0 := hx 0 (by decide)
          have c1 := hx 1 (by decide)
          have c2 := hx 2 (by decide)
          have c3 := hx 3 (by decide)
          have c4 := hx 4 (by decide)
          have c5 := hx 5 (by decide)
          have c6 := hx 6 (by decide)
          have c7 := hx 7 (by decide)
          have c8 := hx 8 (by decide)
          have c9 := hx 9 (by decide)
          simp only [Nat.add_zero, kcells, List.getElem?_toArray, List.getElem?_cons_zero, List.getElem?_cons_succ] at c0 c1 c2 c3 c4 c5 c6 c7 c8 c9
          clear hcell hx
          have hwz := hwr.size
          have hrs := GSt.rs hP
          have hst := GSt.st hP
          have htp := GSt.tg hP
          have hpl := hP.blk.lt
          go_upto_region 10 with fail
          generalize hW1 : wr.alloc (.cells #[.int .i64 kind, .int .i64 n, .bool yes, (Value.bool (o).opaq), (Value.int .i64 (o).id), (Value.string ⟨((o).scheme).toArray⟩), (Value.string ⟨(((o).host).name).toArray⟩), (Value.bool ((o).host).v4), (Value.int .u32 (((o).host).addr : Int)), (Value.int .i64 (o).port)] 72) = W1
          have hb1 : Below wr.heap.size wr W1 := by rw [← hW1]; (exact bw_)
          have hX1 : Blk W1 wr.heap.size 72 #[.int .i64 kind, .int .i64 n, .bool yes, (Value.bool (o).opaq), (Value.int .i64 (o).id), (Value.string ⟨((o).scheme).toArray⟩), (Value.string ⟨(((o).host).name).toArray⟩), (Value.bool ((o).host).v4), (Value.int .u32 (((o).host).addr : Int)), (Value.int .i64 (o).port)] := by rw [← hW1]; exact Blk.new _ _ _
          have hP1 : GP W1 p r s t S := GSt.below hP hb1
          have hw1 : Below w.heap.size w W1 := hwr.trans (hb1.mono hwz)
          have hrz : r ≤ W1.heap.size := Nat.le_trans (by omega) hb1.size
          clear hW1 hb1 hP c0 c1 c2 c3 c4 c5 c6 c7 c8 c9
          generalize wr.heap.size = gX at *
          have hXc := hX1.cell
          have hXf := hX1.frozen
          by_cases hnm : 1000 < o.host.name.length
          · go_wp2_with fail
            go_roundw
            case rel => exact ⟨m + 1, S, by omega, by omega, by go_num, hok.more (by omega), hmost, hP1, hw1⟩
            case measure => simp [intOf]; omega
          by_cases hsc : 1000 < o.scheme.length
          · go_wp2_with fail
            go_roundw
            case rel => exact ⟨m + 1, S, by omega, by omega, by go_num, hok.more (by omega), hmost, hP1, hw1⟩
            case measure => simp [intOf]; omega
          have ho := hfit.wide (by show o.host.name.length ≤ 1000; omega) (by show o.scheme.length ≤ 1000; omega)
          have hoid := hfit.id
          have hok2 := hok.step ⟨kind, n, yes, o⟩ U
          have hmost2 : Hid ((S.step ⟨kind, n, yes, o⟩ U).most = most) := Lib.hid (by rw [← hmost.out]; exact step_most S _ U)
          by_cases q1 : kind = 1
          · subst q1
            have hop := GP.openG hok (by omega) hP1 yes
            replace hop := Lib.hid hop
            go_wp2_with fail
            refine hop.out.mono ?_
            rintro e W2 ⟨⟨rfl, hbP⟩, hgP⟩
            go_wp2_with fail
            go_roundw
            case rel => exact ⟨m + 1, S.step ⟨1, n, yes, o⟩ U, by omega, by omega, by go_num, hok2, hmost2, hgP, hw1.trans ((hbP.low hrz hrs hst htp).mono hrw)⟩
            case measure => simp [intOf]; omega
          have f1 : (kind == 1) = false := by rw [beq_eq_false_iff_ne]; exact q1
          by_cases q2 : kind = 2
          · subst q2
            have hop := groups_drop W1 p r s t S _ hok hP1 n
            replace hop := Lib.hid hop
            go_wp2_with fail
            refine hop.out.mono ?_
            rintro e W2 ⟨⟨rfl, hbP⟩, hgP⟩
            go_wp2_with fail
            go_roundw
            case rel => exact ⟨m + 1, S.step ⟨2, n, yes, o⟩ U, by omega, by omega, by go_num, hok2, hmost2, hgP, hw1.trans ((hbP.low hrz hrs hst htp).mono hrw)⟩
            case measure => simp [intOf]; omega
          have f2 : (kind == 2) = false := by rw [beq_eq_false_iff_ne]; exact q2
          by_cases q3 : kind = 3
          · subst q3
            have hop := GP.cluster hok (by omega) hP1 n o (.slice vA U.length vc) U (hSu.out.below hw1) (hE.out.below hw1) ho hoid
            replace hop := Lib.hid hop
            go_wp2_with fail
            refine hop.out.mono ?_
            rintro e W2 ⟨⟨rfl, hbP⟩, hgP⟩
            go_wp2_with fail
            go_roundw
            case rel => exact ⟨m + 1, S.step ⟨3, n, yes, o⟩ U, by omega, by omega, by go_num, hok2, hmost2, hgP, hw1.trans ((hbP.low hrz hrs hst htp).mono hrw)⟩
            case measure => simp [intOf]; omega
          have f3 : (kind == 3) = false := by rw [beq_eq_false_iff_ne]; exact q3
          have hse : S.step ⟨kind, n, yes, o⟩ U = S := by unfold Gl.Gs.step; simp [q1, q2, q3]
          rw [hse] at hok2
          replace hse := Lib.hid hse
          replace q1 := Lib.hid q1
          replace q2 := Lib.hid q2
          replace q3 := Lib.hid q3
          go_wp2_with fail
          go_roundw
          case rel => exact ⟨m + 1, S, by omega, by omega, by go_num, hok2, hmost, hP1, hw1⟩
          case measure => simp [intOf]; omega
        case neg =>
          have hal := groups_all wr p r s t S _ hok (by omega) hP
          replace hal := Lib.hid hal
          have hmst := hmost.out
          have hlm := hok.cm
          have hgm := hok.gm
          have hmx := hok.m2
          by_cases hmt : m < L.length
          · have hm2 : ¬ m < 120 := fun h => hgo ⟨hmt, h⟩
            go_upto_region 18 with fail
            go_wp2_with fail
            refine hal.out.mono ?_
            rintro e W2 ⟨v9, u9, rfl, hv9, hu9, hb9⟩
            have hbW : Below w.heap.size w W2 := hwr.trans (hb9.mono hwr.size)
            have hP2 : GP W2 p r s t S := GSt.below hP hb9
            clear hal hb9 hP hgo
            obtain ⟨A9, c9, e9, _⟩ := id' hv9
            rw [List.length_map] at e9
            obtain ⟨B9, d9, f9, _⟩ := id' hu9
            rw [List.length_map] at f9
            subst e9 f9
            have hhas := fun (W : World) (hW : Below W2.heap.size W2 W) (n : Int) => ref16_has W _ (S.G.map (·.1)) n (by have := hv9.below hW; simpa [icells, Function.comp_def] using this) (by simp; omega)
            have hiso := fun (W : World) (hW : Below W2.heap.size W2 W) (n : Int) => GP.isolated (show GP W p r s t S from GSt.below hP2 hW) n
            have hfnd := fun (W : World) (hW : Below W2.heap.size W2 W) (n : Int) => groups_find W p r s t S (GSt.below hP2 hW) n
            have hlt1 : ∀ (q j : Nat) (hj : j < S.L.length) (hq : q < j), (S.L[q]'(Nat.lt_trans hq hj)).id < S.L[j].id ∧ ¬((S.L[q]'(Nat.lt_trans hq hj)).grp = S.L[j].grp ∧ (S.L[q]'(Nat.lt_trans hq hj)).key = S.L[j].key) := fun q j hj hq => ⟨List.pairwise_iff_getElem.1 hok.c q j _ hj hq, List.pairwise_iff_getElem.1 hok.pl q j _ hj hq⟩
            replace hhas := Lib.hid hhas
            replace hiso := Lib.hid hiso
            replace hfnd := Lib.hid hfnd
            replace hlt1 := Lib.hid hlt1
            replace hu9 := Lib.hid hu9
            have hfo := Lib.hid (fun (c : Gl.Cluster) (hc : c ∈ S.L) => hok.found hc)
            have hfin : (S.G.length : Int) ≤ most := by rw [← hmst]; exact hgm
            clear hv9 hP2 hok hmst hmost
            generalize hG9 : S.G.length = NG at *
            clear hG9
            generalize S.L = C at *
            go_wp2_with fail
            go_loopw [15] (fun i wq => ∃ j : Nat, j ≤ C.length ∧ i = .int .i64 j ∧ Below W2.heap.size W2 wq) (fun i _ => C.length - (intOf i).toNat)
            case atStart => exact ⟨0, Nat.zero_le _, rfl, Below.refl _ _⟩
            case round =>
              obtain ⟨j, hjl, rfl, hbj⟩ := hrel
              by_cases hjt : j < C.length
              case neg =>
                go_wp2_with fail
                go_ret
                exact ⟨rfl, hbW.trans (hbj.mono hbW.size)⟩
              obtain ⟨sb, so, rfl, hsB, hcell⟩ := slice_cell hu9.out j (by simpa using hjt)
              have hx := fun (W : World) (hW : Below W2.heap.size W2 W) (n : Nat) (hn : n < 4) => (hW.cell (p := ⟨sb, so + j * 4 + n, none⟩) hsB).trans (hcell n hn)
              simp only [List.getElem_map] at hx
              have hmem := hfo.out _ (List.getElem_mem hjt)
              have hlt2 := fun q hq => hlt1.out q j hjt hq
              generalize hxx : C[j] = x at *
              obtain ⟨ci, cg, ck, cs⟩ := x
              obtain ⟨g1, g2, g3⟩ := hmem
              simp only at g1 g2 g3
              have hh1 := fun W hW => hhas.out W hW cg
              have hh2 := fun W hW => hiso.out W hW cg
              have hh3 := fun W hW => hfnd.out W hW ci
              rw [g1] at hh1
              rw [g2] at hh2
              rw [g3] at hh3
              simp only [ccells] at hh2 hh3
              have hx4 : ∀ W, Below W2.heap.size W2 W → W.cell? ⟨sb, so + j * 4, none⟩ = some (.int .i64 ci) ∧ W.cell? ⟨sb, so + j * 4 + 1, none⟩ = some (.int .i64 cg) ∧ W.cell? ⟨sb, so + j * 4 + 2, none⟩ = some (.string ⟨ck.toArray⟩) ∧ W.cell? ⟨sb, so + j * 4 + 3, none⟩ = some (.bool cs) := fun W hW => ⟨hx W hW 0 (by decide), hx W hW 1 (by decide), hx W hW 2 (by decide), hx W hW 3 (by decide)⟩
              replace hh1 := Lib.hid hh1
              replace hh2 := Lib.hid hh2
              replace hh3 := Lib.hid hh3
              replace hx4 := Lib.hid hx4
              replace hlt2 := Lib.hid hlt2
              replace hxx := Lib.hid hxx
              clear hcell hx g1 g2 g3
              obtain ⟨c0, c1, c2, c3⟩ := hx4.out _ hbj
              go_wp2_with fail
              refine (hh1.out _ hbj).mono ?_
              rintro e W3 ⟨rfl, hb3⟩
              have hbk : Below W2.heap.size W2 W3 := hbj.trans (hb3.mono hbj.size)
              clear c0 c1 c2 c3 hb3
              obtain ⟨c0, c1, c2, c3⟩ := hx4.out _ hbk
              go_wp2_with fail
              refine (hh2.out _ hbk).mono ?_
              rintro e W4 ⟨rfl, hb4⟩
              have hbl : Below W2.heap.size W2 W4 := hbk.trans (hb4.mono hbk.size)
              clear c0 c1 c2 c3 hb4
              obtain ⟨c0, c1, c2, c3⟩ := hx4.out _ hbl
              go_wp2_with fail
              refine (hh3.out _ hbl).mono ?_
              rintro e W5 ⟨rfl, hb5⟩
              have hbm : Below W2.heap.size W2 W5 := hbl.trans (hb5.mono hbl.size)
              clear c0 c1 c2 c3 hb5
              go_upto_region 25 with fail
              generalize hW6 : W5.alloc (.cells #[.int .i64 ci, .int .i64 cg, .string ⟨ck.toArray⟩, .bool cs] 75) = W6
              have hN6 : Blk W6 W5.heap.size 75 #[.int .i64 ci, .int .i64 cg, .string ⟨ck.toArray⟩, .bool cs] := by rw [← hW6]; exact Blk.new _ _ _
              have hbn : Below W2.heap.size W2 W6 := by rw [← hW6]; exact hbm.alloc hbm.size _
              clear hW6
              generalize W5.heap.size = gN at *
              have hNc := hN6.cell
              have hNf := hN6.frozen
              obtain ⟨c0, c1, c2, c3⟩ := hx4.out _ hbn
              go_quiet (fail)
              go_wp2_with fail
              have hbo : Below W2.heap.size W2 (W6.drewN nq) := below_drewN hbn nq
              clear hNc hNf hN6 c0 c1 c2 c3 hbn
              generalize W6.drewN nq = W7 at *
              clear nq
              go_loopw [21] (fun i wq => ∃ q : Nat, q ≤ j ∧ i = .int .i64 q ∧ Below W2.heap.size W2 wq) (fun i _ => j - (intOf i).toNat)
              case atStart => exact ⟨0, Nat.zero_le _, rfl, hbo⟩
              case round =>
                obtain ⟨q, hql, rfl, hbq⟩ := hrel
                by_cases hqt : q < j
                · obtain ⟨tb, tq, e, htB, hcell2⟩ := slice_cell hu9.out q (by simp; omega)
                  injection e with e
                  injection e with e1 e2
                  subst e1 e2
                  have hl := hlt2.out q hqt
                  have hy := fun (n : Nat) (hn : n < 4) => (hbq.cell (p := ⟨sb, so + q * 4 + n, none⟩) htB).trans (hcell2 n hn)
                  simp only [List.getElem_map] at hy
                  generalize C[q]'(Nat.lt_trans hqt hjt) = y at *
                  obtain ⟨di, dg, dk, ds⟩ := y
                  have d0 := hy 0 (by decide)
                  have d1 := hy 1 (by decide)
                  have d2 := hy 2 (by decide)
                  simp only [Nat.add_zero, ccells, List.getElem?_toArray, List.getElem?_cons_zero, List.getElem?_cons_succ] at d0 d1 d2
                  simp only at hl
                  obtain ⟨l1, l2⟩ := hl
                  clear hcell2 hy
                  obtain ⟨c0, c1, c2, c3⟩ := hx4.out _ hbq
                  have hq1 : q < C.length := Nat.lt_trans hqt hjt
                  have l3 : ¬ (ci ≤ di) := by omega
                  replace l1 := Lib.hid l1
                  by_cases k1 : dg = cg
                  · have k2 : (dk == ck) = false := by rw [beq_eq_false_iff_ne]; exact fun e => l2 ⟨k1, e⟩
                    have k3 : (dg == cg) = true := by rw [beq_iff_eq]; exact k1
                    replace k1 := Lib.hid k1
                    replace l2 := Lib.hid l2
                    go_upto_region 30 with fail
                    go_quiet (fail)
                    go_wp2_with fail
                    go_roundw
                    case rel => exact ⟨q + 1, by omega, by go_num, bw_⟩
                    case measure => simp [intOf]; omega
                  · have k3 : (dg == cg) = false := by rw [beq_eq_false_iff_ne]; exact k1
                    replace k1 := Lib.hid k1
                    replace l2 := Lib.hid l2
                    go_upto_region 30 with fail
                    go_quiet (fail)
                    go_wp2_with fail
                    go_roundw
                    case rel => exact ⟨q + 1, by omega, by go_num, bw_⟩
                    case measure => simp [intOf]; omega
                · go_wp2_with fail
                  go_roundw
                  case rel => exact ⟨j + 1, by omega, by go_num, hbq⟩
                  case measure => simp [intOf]; omega
          · go_upto_region 18 with fail
            go_wp2_with fail
            refine hal.out.mono ?_
            rintro e W2 ⟨v9, u9, rfl, hv9, hu9, hb9⟩
            have hbW : Below w.heap.size w W2 := hwr.trans (hb9.mono hwr.size)
            have hP2 : GP W2 p r s t S := GSt.below hP hb9
            clear hal hb9 hP hgo
            obtain ⟨A9, c9, e9, _⟩ := id' hv9
            rw [List.length_map] at e9
            obtain ⟨B9, d9, f9, _⟩ := id' hu9
            rw [List.length_map] at f9
            subst e9 f9
            have hhas := fun (W : World) (hW : Below W2.heap.size W2 W) (n : Int) => ref16_has W _ (S.G.map (·.1)) n (by have := hv9.below hW; simpa [icells, Function.comp_def] using this) (by simp; omega)
            have hiso := fun (W : World) (hW : Below W2.heap.size W2 W) (n : Int) => GP.isolated (show GP W p r s t S from GSt.below hP2 hW) n
            have hfnd := fun (W : World) (hW : Below W2.heap.size W2 W) (n : Int) => groups_find W p r s t S (GSt.below hP2 hW) n
            have hlt1 : ∀ (q j : Nat) (hj : j < S.L.length) (hq : q < j), (S.L[q]'(Nat.lt_trans hq hj)).id < S.L[j].id ∧ ¬((S.L[q]'(Nat.lt_trans hq hj)).grp = S.L[j].grp ∧ (S.L[q]'(Nat.lt_trans hq hj)).key = S.L[j].key) := fun q j hj hq => ⟨List.pairwise_iff_getElem.1 hok.c q j _ hj hq, List.pairwise_iff_getElem.1 hok.pl q j _ hj hq⟩
            replace hhas := Lib.hid hhas
            replace hiso := Lib.hid hiso
            replace hfnd := Lib.hid hfnd
            replace hlt1 := Lib.hid hlt1
            replace hu9 := Lib.hid hu9
            have hfo := Lib.hid (fun (c : Gl.Cluster) (hc : c ∈ S.L) => hok.found hc)
            have hfin : (S.G.length : Int) ≤ most := by rw [← hmst]; exact hgm
            clear hv9 hP2 hok hmst hmost
            generalize hG9 : S.G.length = NG at *
            clear hG9
            generalize S.L = C at *
            go_wp2_with fail
            go_loopw [15] (fun i wq => ∃ j : Nat, j ≤ C.length ∧ i = .int .i64 j ∧ Below W2.heap.size W2 wq) (fun i _ => C.length - (intOf i).toNat)
            case atStart => exact ⟨0, Nat.zero_le _, rfl, Below.refl _ _⟩
            case round =>
              obtain ⟨j, hjl, rfl, hbj⟩ := hrel
              by_cases hjt : j < C.length
              case neg =>
                go_wp2_with fail
                go_ret
                exact ⟨rfl, hbW.trans (hbj.mono hbW.size)⟩
              obtain ⟨sb, so, rfl, hsB, hcell⟩ := slice_cell hu9.out j (by simpa using hjt)
              have hx := fun (W : World) (hW : Below W2.heap.size W2 W) (n : Nat) (hn : n < 4) => (hW.cell (p := ⟨sb, so + j * 4 + n, none⟩) hsB).trans (hcell n hn)
              simp only [List.getElem_map] at hx
              have hmem := hfo.out _ (List.getElem_mem hjt)
              have hlt2 := fun q hq => hlt1.out q j hjt hq
              generalize hxx : C[j] = x at *
              obtain ⟨ci, cg, ck, cs⟩ := x
              obtain ⟨g1, g2, g3⟩ := hmem
              simp only at g1 g2 g3
              have hh1 := fun W hW => hhas.out W hW cg
              have hh2 := fun W hW => hiso.out W hW cg
              have hh3 := fun W hW => hfnd.out W hW ci
              rw [g1] at hh1
              rw [g2] at hh2
              rw [g3] at hh3
              simp only [ccells] at hh2 hh3
              have hx4 : ∀ W, Below W2.heap.size W2 W → W.cell? ⟨sb, so + j * 4, none⟩ = some (.int .i64 ci) ∧ W.cell? ⟨sb, so + j * 4 + 1, none⟩ = some (.int .i64 cg) ∧ W.cell? ⟨sb, so + j * 4 + 2, none⟩ = some (.string ⟨ck.toArray⟩) ∧ W.cell? ⟨sb, so + j * 4 + 3, none⟩ = some (.bool cs) := fun W hW => ⟨hx W hW 0 (by decide), hx W hW 1 (by decide), hx W hW 2 (by decide), hx W hW 3 (by decide)⟩
              replace hh1 := Lib.hid hh1
              replace hh2 := Lib.hid hh2
              replace hh3 := Lib.hid hh3
              replace hx4 := Lib.hid hx4
              replace hlt2 := Lib.hid hlt2
              replace hxx := Lib.hid hxx
              clear hcell hx g1 g2 g3
              obtain ⟨c0, c1, c2, c3⟩ := hx4.out _ hbj
              go_wp2_with fail
              refine (hh1.out _ hbj).mono ?_
              rintro e W3 ⟨rfl, hb3⟩
              have hbk : Below W2.heap.size W2 W3 := hbj.trans (hb3.mono hbj.size)
              clear c0 c1 c2 c3 hb3
              obtain ⟨c0, c1, c2, c3⟩ := hx4.out _ hbk
              go_wp2_with fail
              refine (hh2.out _ hbk).mono ?_
              rintro e W4 ⟨rfl, hb4⟩
              have hbl : Below W2.heap.size W2 W4 := hbk.trans (hb4.mono hbk.size)
              clear c0 c1 c2 c3 hb4
              obtain ⟨c0, c1, c2, c3⟩ := hx4.out _ hbl
              go_wp2_with fail
              refine (hh3.out _ hbl).mono ?_
              rintro e W5 ⟨rfl, hb5⟩
              have hbm : Below W2.heap.size W2 W5 := hbl.trans (hb5.mono hbl.size)
              clear c0 c1 c2 c3 hb5
              go_upto_region 25 with fail
              generalize hW6 : W5.alloc (.cells #[.int .i64 ci, .int .i64 cg, .string ⟨ck.toArray⟩, .bool cs] 75) = W6
              have hN6 : Blk W6 W5.heap.size 75 #[.int .i64 ci, .int .i64 cg, .string ⟨ck.toArray⟩, .bool cs] := by rw [← hW6]; exact Blk.new _ _ _
              have hbn : Below W2.heap.size W2 W6 := by rw [← hW6]; exact hbm.alloc hbm.size _
              clear hW6
              generalize W5.heap.size = gN at *
              have hNc := hN6.cell
              have hNf := hN6.frozen
              obtain ⟨c0, c1, c2, c3⟩ := hx4.out _ hbn
              go_quiet (fail)
              go_wp2_with fail
              have hbo : Below W2.heap.size W2 (W6.drewN nq) := below_drewN hbn nq
              clear hNc hNf hN6 c0 c1 c2 c3 hbn
              generalize W6.drewN nq = W7 at *
              clear nq
              go_loopw [21] (fun i wq => ∃ q : Nat, q ≤ j ∧ i = .int .i64 q ∧ Below W2.heap.size W2 wq) (fun i _ => j - (intOf i).toNat)
              case atStart => exact ⟨0, Nat.zero_le _, rfl, hbo⟩
              case round =>
                obtain ⟨q, hql, rfl, hbq⟩ := hrel
                by_cases hqt : q < j
                · obtain ⟨tb, tq, e, htB, hcell2⟩ := slice_cell hu9.out q (by simp; omega)
                  injection e with e
                  injection e with e1 e2
                  subst e1 e2
                  have hl := hlt2.out q hqt
                  have hy := fun (n : Nat) (hn : n < 4) => (hbq.cell (p := ⟨sb, so + q * 4 + n, none⟩) htB).trans (hcell2 n hn)
                  simp only [List.getElem_map] at hy
                  generalize C[q]'(Nat.lt_trans hqt hjt) = y at *
                  obtain ⟨di, dg, dk, ds⟩ := y
                  have d0 := hy 0 (by decide)
                  have d1 := hy 1 (by decide)
                  have d2 := hy 2 (by decide)
                  simp only [Nat.add_zero, ccells, List.getElem?_toArray, List.getElem?_cons_zero, List.getElem?_cons_succ] at d0 d1 d2
                  simp only at hl
                  obtain ⟨l1, l2⟩ := hl
                  clear hcell2 hy
                  obtain ⟨c0, c1, c2, c3⟩ := hx4.out _ hbq
                  have hq1 : q < C.length := Nat.lt_trans hqt hjt
                  have l3 : ¬ (ci ≤ di) := by omega
                  replace l1 := Lib.hid l1
                  by_cases k1 : dg = cg
                  · have k2 : (dk == ck) = false := by rw [beq_eq_false_iff_ne]; exact fun e => l2 ⟨k1, e⟩
                    have k3 : (dg == cg) = true := by rw [beq_iff_eq]; exact k1
                    replace k1 := Lib.hid k1
                    replace l2 := Lib.hid l2
                    go_upto_region 30 with fail
                    go_quiet (fail)
                    go_wp2_with fail
                    go_roundw
                    case rel => exact ⟨q + 1, by omega, by go_num, bw_⟩
                    case measure => simp [intOf]; omega
                  · have k3 : (dg == cg) = false := by rw [beq_eq_false_iff_ne]; exact k1
                    replace k1 := Lib.hid k1
                    replace l2 := Lib.hid l2
                    go_upto_region 30 with fail
                    go_quiet (fail)
                    go_wp2_with fail
                    go_roundw
                    case rel => exact ⟨q + 1, by omega, by go_num, bw_⟩
                    case measure => simp [intOf]; omega
                · go_wp2_with fail
                  go_roundw
                  case rel => exact ⟨j + 1, by omega, by go_num, hbq⟩
                  case measure => simp [intOf]; omega
end Go.Proofs.YtbafofldgkigmaaGreatDoor
