/- urlp.Parse. -/
import Derived.Test.YtbafofldgkigmaaGreatDoorThree
import Derived.Test.YtbafofldgkigmaaGreatDoorInner
import Derived.Test.YtbafofldgkigmaaGreatDoorOne
namespace Go.Proofs.YtbafofldgkigmaaGreatDoor
open Go.RowKit
attribute [local irreducible] Calls

theorem innerOf_net (rest : List UInt8) : (Gl.innerOf { scheme := [98, 108, 111, 98], rest := rest }).2 = ((Gl.parse rest).2 == 0 && Gl.isNet (Gl.parse rest).1) := by
  show (if ([98, 108, 111, 98] : List UInt8) ≠ Gl.blob then (({} : Gl.URL), false) else if (Gl.parse rest).2 ≠ 0 ∨ Gl.isNet (Gl.parse rest).1 = false then ({}, false) else ((Gl.parse rest).1, true)).2 = _
  rw [if_neg (fun h => h rfl)]
  cases hn : Gl.isNet (Gl.parse rest).1 <;> by_cases he : (Gl.parse rest).2 = 0 <;> simp [he]

set_option maxHeartbeats 4000000 in
set_option maxRecDepth 100000 in
theorem urlp_parse_n (n : Nat) : ∀ (s0 : List UInt8) (w : World), s0.length ≤ 4294967280 → s0.length < n → Env w →
    Calls Tryz.prog 19 #[(Value.string ⟨(s0).toArray⟩)] w (Ret w (.tuple #[(Value.agg #[(Value.string ⟨(((Gl.parse s0).1).scheme).toArray⟩), (Value.string ⟨((((Gl.parse s0).1).host).name).toArray⟩), (Value.bool (((Gl.parse s0).1).host).v4), (Value.int .u32 ((((Gl.parse s0).1).host).addr : Int)), (Value.int .i64 ((Gl.parse s0).1).port), (Value.string ⟨(((Gl.parse s0).1).path).toArray⟩), (Value.bool ((Gl.parse s0).1).hasQuery), (Value.string ⟨(((Gl.parse s0).1).query).toArray⟩), (Value.string ⟨(((Gl.parse s0).1).rest).toArray⟩)]), .int .i64 (Gl.parse s0).2])) := by
  induction n with
  | zero => intro s0 w h1 h2; omega
  | succ n ih =>
  intro s0 w hs0 hsn hE
  have hC1 := core_long Gl.netText s0
  have hC2 := core_form Gl.netText s0
  have hC3 := core_rest Gl.netText s0
  have hRR : Gl.parse s0 = Gl.core Gl.netText s0 := rfl
  generalize Gl.parse s0 = R at *
  rw [← hRR] at hC1 hC2 hC3
  clear hRR
  have htl := trim_len s0
  have hT : Gl.trimR (Gl.trimL s0) = Gl.trim s0 := rfl
  generalize hS : Gl.trim s0 = S at *
  replace hT := Lib.hid hT
  replace hC1 := Lib.hid hC1
  replace hC2 := Lib.hid hC2
  replace hC3 := Lib.hid hC3
  replace ih := Lib.hid ih
  go_enter Tryz.func19, Tryz.ntmps19
  go_upto_block 0 with (fail)
  go_cut [0, 2, 3] (fun v p2 z w' => (∃ t : List UInt8, t.length ≤ 4294967280 ∧ v = .string ⟨t.toArray⟩ ∧ Hid (Gl.trimR t = S)) ∧ p2 = .pointer (some ⟨w.heap.size, 0, none⟩) ∧ z = .int .i64 0 ∧ Below w.heap.size w w' ∧ Blk w' w.heap.size 28 #[(Value.string ⟨#[]⟩), (Value.string ⟨#[]⟩), (Value.bool false), (Value.int .u32 0), (Value.int .i64 0), (Value.string ⟨#[]⟩), (Value.bool false), (Value.string ⟨#[]⟩), (Value.string ⟨#[]⟩)])
  case first =>
    go_wp2
    go_loop [0] (fun v => ∃ t : List UInt8, t.length ≤ 4294967280 ∧ v = .string ⟨t.toArray⟩ ∧ Hid (Gl.trimR (Gl.trimL t) = S)) (fun v => sizeOfV v)
    case atStart => exact ⟨s0, hs0, rfl, hT⟩
    case round =>
      obtain ⟨t, ht, rfl, hr⟩ := hrel
      by_cases hlt : 0 < t.length
      · have hte : (t == []) = false := by cases t with | nil => simp at hlt | cons a b => rfl
        by_cases hb : t[0].toNat ≤ 32
        · have hf : Hid (Gl.trimR (Gl.trimL t.tail) = S) := Lib.hid (by rw [← trimL_cons hlt hb]; exact hr.out)
          go_wp2
          go_round
          case rel => exact ⟨t.tail, by simp; omega, rfl, hf⟩
          case measure => simp [sizeOfV, ByteArray.size]; omega
        · have hf : Hid (Gl.trimR t = S) := Lib.hid (by rw [trimL_stop hlt (by omega)] at hr; exact hr.out)
          go_wp2
          go_meet
          exact ⟨⟨t, ht, rfl, hf⟩, rfl, rfl, bw_, bk_⟩
      · obtain rfl : t = [] := List.eq_nil_of_length_eq_zero (by omega)
        go_wp2
        go_meet
        exact ⟨⟨[], ht, rfl, hr⟩, rfl, rfl, bw_, bk_⟩
  case rest =>
  obtain ⟨⟨t, ht, rfl, hr⟩, rfl, rfl, hw, hB1⟩ := hcut
  go_upto_block 2 with (fail)
  go_cut [0, 2, 3] (fun v p2 z w' => v = (Value.string ⟨(S).toArray⟩) ∧ p2 = .pointer (some ⟨w.heap.size, 0, none⟩) ∧ z = .int .i64 0 ∧ Below w.heap.size w w' ∧ Blk w' w.heap.size 28 #[(Value.string ⟨#[]⟩), (Value.string ⟨#[]⟩), (Value.bool false), (Value.int .u32 0), (Value.int .i64 0), (Value.string ⟨#[]⟩), (Value.bool false), (Value.string ⟨#[]⟩), (Value.string ⟨#[]⟩)])
  case first =>
    go_wp2
    go_loop [0] (fun v => ∃ t : List UInt8, t.length ≤ 4294967280 ∧ v = .string ⟨t.toArray⟩ ∧ Hid (Gl.trimR t = S)) (fun v => sizeOfV v)
    case atStart => exact ⟨t, ht, rfl, hr⟩
    case round =>
      clear hr ht
      obtain ⟨t, ht, rfl, hr⟩ := hrel
      by_cases hlt : 0 < t.length
      · have hi : t.length - 1 < t.length := by omega
        have hte : (t == []) = false := by cases t with | nil => simp at hlt | cons a b => rfl
        by_cases hb : t[t.length - 1].toNat ≤ 32
        · have hf : Hid (Gl.trimR (t.take (t.length - 1)) = S) := Lib.hid (by rw [← trimR_snoc hlt hb]; exact hr.out)
          go_wp2
          go_round
          case rel => exact ⟨_, by simp; omega, rfl, hf⟩
          case measure => simp [sizeOfV, ByteArray.size]; omega
        · have hf : Hid (S = t) := Lib.hid (by rw [trimR_stop hlt (by omega)] at hr; exact hr.out.symm)
          go_wp2
          go_meet
          exact ⟨by rw [hf.out], rfl, rfl, hw, hB1⟩
      · obtain rfl : t = [] := List.eq_nil_of_length_eq_zero (by omega)
        go_wp2
        go_meet
        exact ⟨by rw [← hr.out]; rfl, rfl, rfl, hw, hB1⟩
  case rest =>
  clear hB1 hw hr ht
  obtain ⟨rfl, rfl, rfl, hw, hB1⟩ := hcut
  have hs0 := hB1.lt
  have hc1 := hB1.cell
  have hz1 := hB1.frozen
  have hspl := span_len [58] S
  have hcut1 := fun (W : World) (hW : Below w.heap.size w W) => cut_any S 58 W (hE.below hW) (by omega)
  generalize hfr : Gl.span [58] S = fr at *
  obtain ⟨f, r⟩ := fr
  simp only at hspl hcut1
  have hlow := fun W => octet_lower f W (by omega)
  have hscl := lower_length f
  have hng := lower_noGreat f
  generalize hlf : Gl.lower f = sc at *
  have hsch := fun W => urlp_scheme sc W (by omega) hng
  replace hcut1 := Lib.hid hcut1
  replace hlow := Lib.hid hlow
  replace hlf := Lib.hid hlf
  replace hfr := Lib.hid hfr
  replace hng := Lib.hid hng
  generalize hport : portOf sc = po
  generalize hknown : known sc = kn
  replace hport := Lib.hid hport
  replace hknown := Lib.hid hknown
  go_wp2_with (first | ((first | (go_at_call 50; refine (hcut1.out _ (bw_)).mono ?_) | (go_at_call 51; refine (hlow.out _).mono ?_)); rintro e w1 ⟨rfl, hb⟩; obtain ⟨hc, hfz⟩ := bcell hb; have hz := hb.size; (try simp at hz); (try have hz0 := lt_ hb w.heap.size); (try have hz1 := lt_ hb (w.heap.size + 1)); (try have hz2 := lt_ hb (w.heap.size + 2)); (try have hz3 := lt_ hb (w.heap.size + 3)); (try have hcA := fun o => hc w.heap.size o sz_); (try have hcB := fun o => hc (w.heap.size + 1) o sz_); (try (have i := cf_ hb g; obtain ⟨hcGg, hfGg, hzGg⟩ := i))))
  generalize hgg : w1.heap.size = g at *
  go_cut [8, 9] (fun ow kv w' => ow = .int .i64 po ∧ kv = .bool kn ∧ w.heap.size < g ∧ Below w.heap.size w w' ∧ Blk w' w.heap.size 28 #[(Value.string ⟨#[]⟩), (Value.string ⟨#[]⟩), (Value.bool false), (Value.int .u32 0), (Value.int .i64 0), (Value.string ⟨#[]⟩), (Value.bool false), (Value.string ⟨#[]⟩), (Value.string ⟨#[]⟩)] ∧ Blk w' g 28 #[(Value.string ⟨(sc).toArray⟩), (Value.string ⟨#[]⟩), (Value.bool false), (Value.int .u32 0), (Value.int .i64 (-1)), (Value.string ⟨#[]⟩), (Value.bool false), (Value.string ⟨#[]⟩), (Value.string ⟨#[]⟩)])
  case first =>
    go_region_with (go_at_call 52; refine (urlp_ports_at _).mono ?_; rintro e w1 ⟨⟨rfl, hb⟩, hm⟩; have hlook := look_ports sc w1 _ hm; rw [hport.out, hknown.out] at hlook; (try simp [hgg] at hlook); obtain ⟨hc, hfz⟩ := bcell hb; have hz := hb.size; (try simp at hz); (try have hz0 : w.heap.size < w1.heap.size := by omega); (try have hz1 : w.heap.size + 1 < w1.heap.size := by omega); (try have hz2 : w.heap.size + 2 < w1.heap.size := by omega); (try have hcA := fun o => hc w.heap.size o sz_))
    all_goals (go_wp2_with fail)
    all_goals go_meet
    all_goals exact ⟨rfl, rfl, by omega, bw_, bk_, by subst hgg; (exact bk_)⟩
  case rest =>
  clear hw hB1 hs0 hc1 hz1
  obtain ⟨rfl, rfl, hg, hw, hB1, hB2⟩ := hcut
  have hs0 := hB1.lt
  have hc1 := hB1.cell
  have hz1 := hB1.frozen
  have hs1 := hB2.lt
  have hc2 := hB2.cell
  have hz2 := hB2.frozen
  by_cases hl : 2000 < S.length
  · have hR := Lib.hid (hC1.out hl)
    replace hsch := Lib.hid hsch
    go_wp2_with (first | fail)
    refine bodyPost_ret (v := (.tuple #[(Value.agg #[(Value.string ⟨#[]⟩), (Value.string ⟨#[]⟩), (Value.bool false), (Value.int .u32 0), (Value.int .i64 0), (Value.string ⟨#[]⟩), (Value.bool false), (Value.string ⟨#[]⟩), (Value.string ⟨#[]⟩)]), .int .i64 30])) (by simp only [results, Tryz.results19]; go_simp) rfl ⟨by rw [ hR.out] <;> rfl, ?_⟩; (exact bw_)
  replace hC3 := hC3.out hl
  clear hC1
  have hSl : S.length ≤ 2000 := by omega
  clear hl
  (try simp only at hC2)
  (try simp only at hC3)
  cases r with
  | nil =>
    have hR := Lib.hid (hC2.out (Or.inl rfl))
    clear hC2 hC3
    replace hsch := Lib.hid hsch
    go_wp2_with (first | fail)
    refine bodyPost_ret (v := (.tuple #[(Value.agg #[(Value.string ⟨#[]⟩), (Value.string ⟨#[]⟩), (Value.bool false), (Value.int .u32 0), (Value.int .i64 0), (Value.string ⟨#[]⟩), (Value.bool false), (Value.string ⟨#[]⟩), (Value.string ⟨#[]⟩)]), .int .i64 30])) (by simp only [results, Tryz.results19]; go_simp) rfl ⟨by rw [ hR.out] <;> rfl, ?_⟩; (exact bw_)
  | cons rc r =>
  cases hk : Gl.scheme sc with
  | false =>
    have hR := Lib.hid (hC2.out (Or.inr hk))
    clear hC2 hC3
    rw [hk] at hsch
    replace hsch := Lib.hid hsch
    go_wp2_with (first | (go_at_call 53; refine ( hsch.out _).mono ?_; rintro e w1 ⟨rfl, rfl⟩))
    refine bodyPost_ret (v := (.tuple #[(Value.agg #[(Value.string ⟨#[]⟩), (Value.string ⟨#[]⟩), (Value.bool false), (Value.int .u32 0), (Value.int .i64 0), (Value.string ⟨#[]⟩), (Value.bool false), (Value.string ⟨#[]⟩), (Value.string ⟨#[]⟩)]), .int .i64 30])) (by simp only [results, Tryz.results19]; go_simp) rfl ⟨by rw [ hR.out] <;> rfl, ?_⟩; (exact bw_)
  | true =>
  rw [hk] at hsch
  replace hC3 := hC3 (by simp) hk
  clear hC2
  simp only [List.drop_succ_cons, List.drop_zero] at hC3
  simp only [List.length_cons] at hspl
  replace hsch := Lib.hid hsch
  have hspl2 := span_len [35] r
  have hcut2 := fun (W : World) (hW : Below w.heap.size w W) => cut_any r 35 W (hE.below hW) (by omega)
  generalize hrr : Gl.span [35] r = rr at *
  obtain ⟨rest, num⟩ := rr
  simp only at hC3 hspl2 hcut2
  replace hcut2 := Lib.hid hcut2
  replace hrr := Lib.hid hrr
  replace hk := Lib.hid hk
  cases kn with
  | false =>
    rw [hknown.out] at hC3
    replace hC3 : Hid (R = ({}, 31)) := Lib.hid hC3
    go_wp2_with (first | (go_at_call 53; refine ( hsch.out _).mono ?_; rintro e w1 ⟨rfl, rfl⟩))
    refine bodyPost_ret (v := (.tuple #[(Value.agg #[(Value.string ⟨#[]⟩), (Value.string ⟨#[]⟩), (Value.bool false), (Value.int .u32 0), (Value.int .i64 0), (Value.string ⟨#[]⟩), (Value.bool false), (Value.string ⟨#[]⟩), (Value.string ⟨#[]⟩)]), .int .i64 31])) (by simp only [results, Tryz.results19]; go_simp) rfl ⟨by rw [ hC3.out] <;> rfl, ?_⟩; (exact bw_)
  | true =>
  have hkn := hknown.out
  rw [if_pos hkn] at hC3
  have hR := Lib.hid hC3
  clear hC3 hknown
  rcases known_cases hkn with rfl | rfl | rfl | rfl | rfl
  · clear hkn
    simp only [Gl.http] at *
    have hpo : po = 80 := hport.out.symm.trans (by rfl)
    subst hpo
    clear hport
    go_upto_block 5 with (first | (go_at_call 53; refine ( hsch.out _).mono ?_; rintro e w1 ⟨rfl, rfl⟩) | (go_at_call 50; refine (hcut2.out _ (bw_)).mono ?_; rintro e w1 ⟨rfl, hb⟩; obtain ⟨hc, hfz⟩ := bcell hb; have hz := hb.size; (try simp at hz); (try have hz0 := lt_ hb w.heap.size); (try have hz1 := lt_ hb (w.heap.size + 1)); (try have hz2 := lt_ hb (w.heap.size + 2)); (try have hz3 := lt_ hb (w.heap.size + 3)); (try have hcA := fun o => hc w.heap.size o sz_); (try have hcB := fun o => hc (w.heap.size + 1) o sz_); (try (have i := cf_ hb g; obtain ⟨hcGg, hfGg, hzGg⟩ := i))))
    go_cut [2, 3, 5, 6, 7, 8] (fun p2 z rs iz p7 ow w' => p2 = .pointer (some ⟨w.heap.size, 0, none⟩) ∧ z = .int .i64 0 ∧ rs = (Value.string ⟨(rest).toArray⟩) ∧ iz = .bool true ∧ ow = .int .i64 80 ∧ Hid (rest.any badC = false) ∧ ∃ g, p7 = .pointer (some ⟨g, 0, none⟩) ∧ w.heap.size < g ∧ Below w.heap.size w w' ∧ Blk w' w.heap.size 28 #[(Value.string ⟨#[]⟩), (Value.string ⟨#[]⟩), (Value.bool false), (Value.int .u32 0), (Value.int .i64 0), (Value.string ⟨#[]⟩), (Value.bool false), (Value.string ⟨#[]⟩), (Value.string ⟨#[]⟩)] ∧ Blk w' g 28 #[(Value.string ⟨([104, 116, 116, 112]).toArray⟩), (Value.string ⟨#[]⟩), (Value.bool false), (Value.int .u32 0), (Value.int .i64 (-1)), (Value.string ⟨#[]⟩), (Value.bool false), (Value.string ⟨#[]⟩), (Value.string ⟨#[]⟩)])
    case first =>
      go_wp2
      go_loop [3, 80] (fun z i => ∃ k : Nat, k ≤ rest.length ∧ i = .int .i64 k ∧ z = .int .i64 0 ∧ Hid ((rest.take k).any badC = false)) (fun _ i => rest.length - (intOf i).toNat)
      case atStart => exact ⟨0, by omega, rfl, rfl, Lib.hid rfl⟩
      case round =>
        obtain ⟨k, hk, rfl, rfl, hr⟩ := hrel
        by_cases hlt : k < rest.length
        · have hbadd : badC rest[k] = true → Hid (R = ({}, 30)) := fun hb => Lib.hid (by
            rw [hR.out, core2_bad]
            exact List.any_eq_true.2 ⟨rest[k], List.getElem_mem hlt, hb⟩)
          by_cases h1 : rest[k].toNat < 33
          · have hR2 := hbadd (by simp [badC, h1])
            clear hbadd
            go_wp2_with (first | fail)
            refine bodyPost_ret (v := (.tuple #[(Value.agg #[(Value.string ⟨#[]⟩), (Value.string ⟨#[]⟩), (Value.bool false), (Value.int .u32 0), (Value.int .i64 0), (Value.string ⟨#[]⟩), (Value.bool false), (Value.string ⟨#[]⟩), (Value.string ⟨#[]⟩)]), .int .i64 30])) (by simp only [results, Tryz.results19]; go_simp) rfl ⟨by rw [ hR2.out] <;> rfl, ?_⟩; (exact bw_)
          · by_cases h2 : 126 < rest[k].toNat
            · have hR2 := hbadd (by simp [badC, h2])
              clear hbadd
              go_wp2_with (first | fail)
              refine bodyPost_ret (v := (.tuple #[(Value.agg #[(Value.string ⟨#[]⟩), (Value.string ⟨#[]⟩), (Value.bool false), (Value.int .u32 0), (Value.int .i64 0), (Value.string ⟨#[]⟩), (Value.bool false), (Value.string ⟨#[]⟩), (Value.string ⟨#[]⟩)]), .int .i64 30])) (by simp only [results, Tryz.results19]; go_simp) rfl ⟨by rw [ hR2.out] <;> rfl, ?_⟩; (exact bw_)
            · have hf : Hid ((rest.take (k + 1)).any badC = false) := Lib.hid (by rw [List.take_succ_eq_append_getElem hlt, List.any_append, hr.out]; simp [badC]; omega)
              clear hbadd
              go_wp2
              go_round
              case rel => exact ⟨k + 1, by omega, by go_num, rfl, hf⟩
              case measure => simp [intOf]; omega
        · have hf : Hid (rest.any badC = false) := Lib.hid (by rw [← hr.out, List.take_of_length_le (by omega)])
          go_wp2
          go_meet
          exact ⟨rfl, rfl, rfl, rfl, rfl, hf, _, rfl, by omega, bw_, bk_, bk_⟩
    case rest =>
      clear hB1 hw hB2 hs0 hc1 hz1 hs1 hc2 hz2 hg
      obtain ⟨rfl, rfl, rfl, rfl, rfl, hbad, g, rfl, hg, hw, hB1, hB2⟩ := hcut
      have hs1 := hB2.lt
      have hc2 := hB2.cell
      have hz2 := hB2.frozen
      have hs0 := hB1.lt
      have hc1 := hB1.cell
      have hz1 := hB1.frozen
      have hR2 := hR.out.trans (core2_net Gl.netText [104, 116, 116, 112] rest hbad.out (Or.inl rfl))
      have hweb : Hid (∀ W, Below w.heap.size w W → Calls Tryz.prog 54 #[(Value.agg #[(Value.string ⟨([104, 116, 116, 112]).toArray⟩), (Value.string ⟨#[]⟩), (Value.bool false), (Value.int .u32 0), (Value.int .i64 (-1)), (Value.string ⟨#[]⟩), (Value.bool false), (Value.string ⟨#[]⟩), (Value.string ⟨(([] : List UInt8)).toArray⟩)]), (Value.string ⟨(rest).toArray⟩), .int .i64 80] W (Ret W (.tuple #[(Value.agg #[(Value.string ⟨((R.1).scheme).toArray⟩), (Value.string ⟨(((R.1).host).name).toArray⟩), (Value.bool ((R.1).host).v4), (Value.int .u32 (((R.1).host).addr : Int)), (Value.int .i64 (R.1).port), (Value.string ⟨((R.1).path).toArray⟩), (Value.bool (R.1).hasQuery), (Value.string ⟨((R.1).query).toArray⟩), (Value.string ⟨((R.1).rest).toArray⟩)]), .int .i64 R.2]))) := Lib.hid (fun W hW => by
        rw [hR2]
        exact urlp_web { scheme := [104, 116, 116, 112], port := -1 } rest W (hE.below hW) (by omega))
      replace hR2 := Lib.hid hR2
      go_wp2_with (first | (go_at_call 54; refine (hweb.out _ (bw_)).mono ?_; rintro e w1 ⟨rfl, hb⟩; obtain ⟨hc, hfz⟩ := bcell hb; have hz := hb.size; (try simp at hz); (try have hz0 := lt_ hb w.heap.size); (try have hz1 := lt_ hb (w.heap.size + 1)); (try have hz2 := lt_ hb (w.heap.size + 2)); (try have hz3 := lt_ hb (w.heap.size + 3)); (try have hcA := fun o => hc w.heap.size o sz_); (try have hcB := fun o => hc (w.heap.size + 1) o sz_); (try (have i := cf_ hb g; obtain ⟨hcGg, hfGg, hzGg⟩ := i))))
      refine bodyPost_ret (v := .tuple #[(Value.agg #[(Value.string ⟨((R.1).scheme).toArray⟩), (Value.string ⟨(((R.1).host).name).toArray⟩), (Value.bool ((R.1).host).v4), (Value.int .u32 (((R.1).host).addr : Int)), (Value.int .i64 (R.1).port), (Value.string ⟨((R.1).path).toArray⟩), (Value.bool (R.1).hasQuery), (Value.string ⟨((R.1).query).toArray⟩), (Value.string ⟨((R.1).rest).toArray⟩)]), .int .i64 R.2]) (by simp only [results, Tryz.results19]; go_simp) rfl ⟨rfl, ?_⟩
      (exact bw_)
  · clear hkn
    simp only [Gl.https] at *
    have hpo : po = 443 := hport.out.symm.trans (by rfl)
    subst hpo
    clear hport
    go_upto_block 5 with (first | (go_at_call 53; refine ( hsch.out _).mono ?_; rintro e w1 ⟨rfl, rfl⟩) | (go_at_call 50; refine (hcut2.out _ (bw_)).mono ?_; rintro e w1 ⟨rfl, hb⟩; obtain ⟨hc, hfz⟩ := bcell hb; have hz := hb.size; (try simp at hz); (try have hz0 := lt_ hb w.heap.size); (try have hz1 := lt_ hb (w.heap.size + 1)); (try have hz2 := lt_ hb (w.heap.size + 2)); (try have hz3 := lt_ hb (w.heap.size + 3)); (try have hcA := fun o => hc w.heap.size o sz_); (try have hcB := fun o => hc (w.heap.size + 1) o sz_); (try (have i := cf_ hb g; obtain ⟨hcGg, hfGg, hzGg⟩ := i))))
    go_cut [2, 3, 5, 6, 7, 8] (fun p2 z rs iz p7 ow w' => p2 = .pointer (some ⟨w.heap.size, 0, none⟩) ∧ z = .int .i64 0 ∧ rs = (Value.string ⟨(rest).toArray⟩) ∧ iz = .bool true ∧ ow = .int .i64 443 ∧ Hid (rest.any badC = false) ∧ ∃ g, p7 = .pointer (some ⟨g, 0, none⟩) ∧ w.heap.size < g ∧ Below w.heap.size w w' ∧ Blk w' w.heap.size 28 #[(Value.string ⟨#[]⟩), (Value.string ⟨#[]⟩), (Value.bool false), (Value.int .u32 0), (Value.int .i64 0), (Value.string ⟨#[]⟩), (Value.bool false), (Value.string ⟨#[]⟩), (Value.string ⟨#[]⟩)] ∧ Blk w' g 28 #[(Value.string ⟨([104, 116, 116, 112, 115]).toArray⟩), (Value.string ⟨#[]⟩), (Value.bool false), (Value.int .u32 0), (Value.int .i64 (-1)), (Value.string ⟨#[]⟩), (Value.bool false), (Value.string ⟨#[]⟩), (Value.string ⟨#[]⟩)])
    case first =>
      go_wp2
      go_loop [3, 80] (fun z i => ∃ k : Nat, k ≤ rest.length ∧ i = .int .i64 k ∧ z = .int .i64 0 ∧ Hid ((rest.take k).any badC = false)) (fun _ i => rest.length - (intOf i).toNat)
      case atStart => exact ⟨0, by omega, rfl, rfl, Lib.hid rfl⟩
      case round =>
        obtain ⟨k, hk, rfl, rfl, hr⟩ := hrel
        by_cases hlt : k < rest.length
        · have hbadd : badC rest[k] = true → Hid (R = ({}, 30)) := fun hb => Lib.hid (by
            rw [hR.out, core2_bad]
            exact List.any_eq_true.2 ⟨rest[k], List.getElem_mem hlt, hb⟩)
          by_cases h1 : rest[k].toNat < 33
          · have hR2 := hbadd (by simp [badC, h1])
            clear hbadd
            go_wp2_with (first | fail)
            refine bodyPost_ret (v := (.tuple #[(Value.agg #[(Value.string ⟨#[]⟩), (Value.string ⟨#[]⟩), (Value.bool false), (Value.int .u32 0), (Value.int .i64 0), (Value.string ⟨#[]⟩), (Value.bool false), (Value.string ⟨#[]⟩), (Value.string ⟨#[]⟩)]), .int .i64 30])) (by simp only [results, Tryz.results19]; go_simp) rfl ⟨by rw [ hR2.out] <;> rfl, ?_⟩; (exact bw_)
          · by_cases h2 : 126 < rest[k].toNat
            · have hR2 := hbadd (by simp [badC, h2])
              clear hbadd
              go_wp2_with (first | fail)
              refine bodyPost_ret (v := (.tuple #[(Value.agg #[(Value.string ⟨#[]⟩), (Value.string ⟨#[]⟩), (Value.bool false), (Value.int .u32 0), (Value.int .i64 0), (Value.string ⟨#[]⟩), (Value.bool false), (Value.string ⟨#[]⟩), (Value.string ⟨#[]⟩)]), .int .i64 30])) (by simp only [results, Tryz.results19]; go_simp) rfl ⟨by rw [ hR2.out] <;> rfl, ?_⟩; (exact bw_)
            · have hf : Hid ((rest.take (k + 1)).any badC = false) := Lib.hid (by rw [List.take_succ_eq_append_getElem hlt, List.any_append, hr.out]; simp [badC]; omega)
              clear hbadd
              go_wp2
              go_round
              case rel => exact ⟨k + 1, by omega, by go_num, rfl, hf⟩
              case measure => simp [intOf]; omega
        · have hf : Hid (rest.any badC = false) := Lib.hid (by rw [← hr.out, List.take_of_length_le (by omega)])
          go_wp2
          go_meet
          exact ⟨rfl, rfl, rfl, rfl, rfl, hf, _, rfl, by omega, bw_, bk_, bk_⟩
    case rest =>
      clear hB1 hw hB2 hs0 hc1 hz1 hs1 hc2 hz2 hg
      obtain ⟨rfl, rfl, rfl, rfl, rfl, hbad, g, rfl, hg, hw, hB1, hB2⟩ := hcut
      have hs1 := hB2.lt
      have hc2 := hB2.cell
      have hz2 := hB2.frozen
      have hs0 := hB1.lt
      have hc1 := hB1.cell
      have hz1 := hB1.frozen
      have hR2 := hR.out.trans (core2_net Gl.netText [104, 116, 116, 112, 115] rest hbad.out (Or.inr rfl))
      have hweb : Hid (∀ W, Below w.heap.size w W → Calls Tryz.prog 54 #[(Value.agg #[(Value.string ⟨([104, 116, 116, 112, 115]).toArray⟩), (Value.string ⟨#[]⟩), (Value.bool false), (Value.int .u32 0), (Value.int .i64 (-1)), (Value.string ⟨#[]⟩), (Value.bool false), (Value.string ⟨#[]⟩), (Value.string ⟨(([] : List UInt8)).toArray⟩)]), (Value.string ⟨(rest).toArray⟩), .int .i64 443] W (Ret W (.tuple #[(Value.agg #[(Value.string ⟨((R.1).scheme).toArray⟩), (Value.string ⟨(((R.1).host).name).toArray⟩), (Value.bool ((R.1).host).v4), (Value.int .u32 (((R.1).host).addr : Int)), (Value.int .i64 (R.1).port), (Value.string ⟨((R.1).path).toArray⟩), (Value.bool (R.1).hasQuery), (Value.string ⟨((R.1).query).toArray⟩), (Value.string ⟨((R.1).rest).toArray⟩)]), .int .i64 R.2]))) := Lib.hid (fun W hW => by
        rw [hR2]
        exact urlp_web { scheme := [104, 116, 116, 112, 115], port := -1 } rest W (hE.below hW) (by omega))
      replace hR2 := Lib.hid hR2
      go_wp2_with (first | (go_at_call 54; refine (hweb.out _ (bw_)).mono ?_; rintro e w1 ⟨rfl, hb⟩; obtain ⟨hc, hfz⟩ := bcell hb; have hz := hb.size; (try simp at hz); (try have hz0 := lt_ hb w.heap.size); (try have hz1 := lt_ hb (w.heap.size + 1)); (try have hz2 := lt_ hb (w.heap.size + 2)); (try have hz3 := lt_ hb (w.heap.size + 3)); (try have hcA := fun o => hc w.heap.size o sz_); (try have hcB := fun o => hc (w.heap.size + 1) o sz_); (try (have i := cf_ hb g; obtain ⟨hcGg, hfGg, hzGg⟩ := i))))
      refine bodyPost_ret (v := .tuple #[(Value.agg #[(Value.string ⟨((R.1).scheme).toArray⟩), (Value.string ⟨(((R.1).host).name).toArray⟩), (Value.bool ((R.1).host).v4), (Value.int .u32 (((R.1).host).addr : Int)), (Value.int .i64 (R.1).port), (Value.string ⟨((R.1).path).toArray⟩), (Value.bool (R.1).hasQuery), (Value.string ⟨((R.1).query).toArray⟩), (Value.string ⟨((R.1).rest).toArray⟩)]), .int .i64 R.2]) (by simp only [results, Tryz.results19]; go_simp) rfl ⟨rfl, ?_⟩
      (exact bw_)
  · clear hkn
    simp only [Gl.about] at *
    have hpo : po = (-1) := hport.out.symm.trans (by rfl)
    subst hpo
    clear hport
    go_upto_block 5 with (first | (go_at_call 53; refine ( hsch.out _).mono ?_; rintro e w1 ⟨rfl, rfl⟩) | (go_at_call 50; refine (hcut2.out _ (bw_)).mono ?_; rintro e w1 ⟨rfl, hb⟩; obtain ⟨hc, hfz⟩ := bcell hb; have hz := hb.size; (try simp at hz); (try have hz0 := lt_ hb w.heap.size); (try have hz1 := lt_ hb (w.heap.size + 1)); (try have hz2 := lt_ hb (w.heap.size + 2)); (try have hz3 := lt_ hb (w.heap.size + 3)); (try have hcA := fun o => hc w.heap.size o sz_); (try have hcB := fun o => hc (w.heap.size + 1) o sz_); (try (have i := cf_ hb g; obtain ⟨hcGg, hfGg, hzGg⟩ := i))))
    go_cut [2, 3, 5, 6, 7, 8] (fun p2 z rs iz p7 ow w' => p2 = .pointer (some ⟨w.heap.size, 0, none⟩) ∧ z = .int .i64 0 ∧ rs = (Value.string ⟨(rest).toArray⟩) ∧ iz = .bool true ∧ ow = .int .i64 (-1) ∧ Hid (rest.any badC = false) ∧ ∃ g, p7 = .pointer (some ⟨g, 0, none⟩) ∧ w.heap.size < g ∧ Below w.heap.size w w' ∧ Blk w' w.heap.size 28 #[(Value.string ⟨#[]⟩), (Value.string ⟨#[]⟩), (Value.bool false), (Value.int .u32 0), (Value.int .i64 0), (Value.string ⟨#[]⟩), (Value.bool false), (Value.string ⟨#[]⟩), (Value.string ⟨#[]⟩)] ∧ Blk w' g 28 #[(Value.string ⟨([97, 98, 111, 117, 116]).toArray⟩), (Value.string ⟨#[]⟩), (Value.bool false), (Value.int .u32 0), (Value.int .i64 (-1)), (Value.string ⟨#[]⟩), (Value.bool false), (Value.string ⟨#[]⟩), (Value.string ⟨#[]⟩)])
    case first =>
      go_wp2
      go_loop [3, 80] (fun z i => ∃ k : Nat, k ≤ rest.length ∧ i = .int .i64 k ∧ z = .int .i64 0 ∧ Hid ((rest.take k).any badC = false)) (fun _ i => rest.length - (intOf i).toNat)
      case atStart => exact ⟨0, by omega, rfl, rfl, Lib.hid rfl⟩
      case round =>
        obtain ⟨k, hk, rfl, rfl, hr⟩ := hrel
        by_cases hlt : k < rest.length
        · have hbadd : badC rest[k] = true → Hid (R = ({}, 30)) := fun hb => Lib.hid (by
            rw [hR.out, core2_bad]
            exact List.any_eq_true.2 ⟨rest[k], List.getElem_mem hlt, hb⟩)
          by_cases h1 : rest[k].toNat < 33
          · have hR2 := hbadd (by simp [badC, h1])
            clear hbadd
            go_wp2_with (first | fail)
            refine bodyPost_ret (v := (.tuple #[(Value.agg #[(Value.string ⟨#[]⟩), (Value.string ⟨#[]⟩), (Value.bool false), (Value.int .u32 0), (Value.int .i64 0), (Value.string ⟨#[]⟩), (Value.bool false), (Value.string ⟨#[]⟩), (Value.string ⟨#[]⟩)]), .int .i64 30])) (by simp only [results, Tryz.results19]; go_simp) rfl ⟨by rw [ hR2.out] <;> rfl, ?_⟩; (exact bw_)
          · by_cases h2 : 126 < rest[k].toNat
            · have hR2 := hbadd (by simp [badC, h2])
              clear hbadd
              go_wp2_with (first | fail)
              refine bodyPost_ret (v := (.tuple #[(Value.agg #[(Value.string ⟨#[]⟩), (Value.string ⟨#[]⟩), (Value.bool false), (Value.int .u32 0), (Value.int .i64 0), (Value.string ⟨#[]⟩), (Value.bool false), (Value.string ⟨#[]⟩), (Value.string ⟨#[]⟩)]), .int .i64 30])) (by simp only [results, Tryz.results19]; go_simp) rfl ⟨by rw [ hR2.out] <;> rfl, ?_⟩; (exact bw_)
            · have hf : Hid ((rest.take (k + 1)).any badC = false) := Lib.hid (by rw [List.take_succ_eq_append_getElem hlt, List.any_append, hr.out]; simp [badC]; omega)
              clear hbadd
              go_wp2
              go_round
              case rel => exact ⟨k + 1, by omega, by go_num, rfl, hf⟩
              case measure => simp [intOf]; omega
        · have hf : Hid (rest.any badC = false) := Lib.hid (by rw [← hr.out, List.take_of_length_le (by omega)])
          go_wp2
          go_meet
          exact ⟨rfl, rfl, rfl, rfl, rfl, hf, _, rfl, by omega, bw_, bk_, bk_⟩
    case rest =>
      clear hB1 hw hB2 hs0 hc1 hz1 hs1 hc2 hz2 hg
      obtain ⟨rfl, rfl, rfl, rfl, rfl, hbad, g, rfl, hg, hw, hB1, hB2⟩ := hcut
      have hs1 := hB2.lt
      have hc2 := hB2.cell
      have hz2 := hB2.frozen
      have hs0 := hB1.lt
      have hc1 := hB1.cell
      have hz1 := hB1.frozen
      have hR2 := hR.out.trans (core2_about Gl.netText rest hbad.out)
      by_cases e1 : rest = Gl.bblank
      · rw [if_neg (fun h => h.1 e1)] at hR2
        unfold Gl.about at hR2
        unfold Gl.bblank at e1
        have hb1 : (rest == ([98, 108, 97, 110, 107] : List UInt8)) = true := by rw [e1]; rfl
        have hb2 : (rest == ([115, 114, 99, 100, 111, 99] : List UInt8)) = false := by rw [e1]; rfl
        replace e1 := Lib.hid e1
        replace hR2 := Lib.hid hR2
        go_wp2_with (first | fail)
        refine bodyPost_ret (v := (.tuple #[(Value.agg #[(Value.string ⟨([97, 98, 111, 117, 116]).toArray⟩), (Value.string ⟨#[]⟩), (Value.bool false), (Value.int .u32 0), (Value.int .i64 (-1)), (Value.string ⟨#[]⟩), (Value.bool false), (Value.string ⟨#[]⟩), (Value.string ⟨(rest).toArray⟩)]), .int .i64 0])) (by simp only [results, Tryz.results19]; go_simp) rfl ⟨by rw [ hR2.out] <;> rfl, ?_⟩; (exact bw_)
      · by_cases e2 : rest = Gl.srcdoc
        · rw [if_neg (fun h => h.2 e2)] at hR2
          unfold Gl.about at hR2
          unfold Gl.srcdoc at e2
          have hb1 : (rest == ([98, 108, 97, 110, 107] : List UInt8)) = false := by rw [e2]; rfl
          have hb2 : (rest == ([115, 114, 99, 100, 111, 99] : List UInt8)) = true := by rw [e2]; rfl
          replace e1 := Lib.hid e1
          replace e2 := Lib.hid e2
          replace hR2 := Lib.hid hR2
          go_wp2_with (first | fail)
          refine bodyPost_ret (v := (.tuple #[(Value.agg #[(Value.string ⟨([97, 98, 111, 117, 116]).toArray⟩), (Value.string ⟨#[]⟩), (Value.bool false), (Value.int .u32 0), (Value.int .i64 (-1)), (Value.string ⟨#[]⟩), (Value.bool false), (Value.string ⟨#[]⟩), (Value.string ⟨(rest).toArray⟩)]), .int .i64 0])) (by simp only [results, Tryz.results19]; go_simp) rfl ⟨by rw [ hR2.out] <;> rfl, ?_⟩; (exact bw_)
        · rw [if_pos ⟨e1, e2⟩] at hR2
          unfold Gl.bblank at e1
          unfold Gl.srcdoc at e2
          have hb1 : (rest == ([98, 108, 97, 110, 107] : List UInt8)) = false := by rw [beq_eq_false_iff_ne]; exact e1
          have hb2 : (rest == ([115, 114, 99, 100, 111, 99] : List UInt8)) = false := by rw [beq_eq_false_iff_ne]; exact e2
          replace e1 := Lib.hid e1
          replace e2 := Lib.hid e2
          replace hR2 := Lib.hid hR2
          go_wp2_with (first | fail)
          refine bodyPost_ret (v := (.tuple #[(Value.agg #[(Value.string ⟨#[]⟩), (Value.string ⟨#[]⟩), (Value.bool false), (Value.int .u32 0), (Value.int .i64 0), (Value.string ⟨#[]⟩), (Value.bool false), (Value.string ⟨#[]⟩), (Value.string ⟨#[]⟩)]), .int .i64 30])) (by simp only [results, Tryz.results19]; go_simp) rfl ⟨by rw [ hR2.out] <;> rfl, ?_⟩; (exact bw_)
  · clear hkn
    simp only [Gl.data] at *
    have hpo : po = (-1) := hport.out.symm.trans (by rfl)
    subst hpo
    clear hport
    go_upto_block 5 with (first | (go_at_call 53; refine ( hsch.out _).mono ?_; rintro e w1 ⟨rfl, rfl⟩) | (go_at_call 50; refine (hcut2.out _ (bw_)).mono ?_; rintro e w1 ⟨rfl, hb⟩; obtain ⟨hc, hfz⟩ := bcell hb; have hz := hb.size; (try simp at hz); (try have hz0 := lt_ hb w.heap.size); (try have hz1 := lt_ hb (w.heap.size + 1)); (try have hz2 := lt_ hb (w.heap.size + 2)); (try have hz3 := lt_ hb (w.heap.size + 3)); (try have hcA := fun o => hc w.heap.size o sz_); (try have hcB := fun o => hc (w.heap.size + 1) o sz_); (try (have i := cf_ hb g; obtain ⟨hcGg, hfGg, hzGg⟩ := i))))
    go_cut [2, 3, 5, 6, 7, 8] (fun p2 z rs iz p7 ow w' => p2 = .pointer (some ⟨w.heap.size, 0, none⟩) ∧ z = .int .i64 0 ∧ rs = (Value.string ⟨(rest).toArray⟩) ∧ iz = .bool true ∧ ow = .int .i64 (-1) ∧ Hid (rest.any badC = false) ∧ ∃ g, p7 = .pointer (some ⟨g, 0, none⟩) ∧ w.heap.size < g ∧ Below w.heap.size w w' ∧ Blk w' w.heap.size 28 #[(Value.string ⟨#[]⟩), (Value.string ⟨#[]⟩), (Value.bool false), (Value.int .u32 0), (Value.int .i64 0), (Value.string ⟨#[]⟩), (Value.bool false), (Value.string ⟨#[]⟩), (Value.string ⟨#[]⟩)] ∧ Blk w' g 28 #[(Value.string ⟨([100, 97, 116, 97]).toArray⟩), (Value.string ⟨#[]⟩), (Value.bool false), (Value.int .u32 0), (Value.int .i64 (-1)), (Value.string ⟨#[]⟩), (Value.bool false), (Value.string ⟨#[]⟩), (Value.string ⟨#[]⟩)])
    case first =>
      go_wp2
      go_loop [3, 80] (fun z i => ∃ k : Nat, k ≤ rest.length ∧ i = .int .i64 k ∧ z = .int .i64 0 ∧ Hid ((rest.take k).any badC = false)) (fun _ i => rest.length - (intOf i).toNat)
      case atStart => exact ⟨0, by omega, rfl, rfl, Lib.hid rfl⟩
      case round =>
        obtain ⟨k, hk, rfl, rfl, hr⟩ := hrel
        by_cases hlt : k < rest.length
        · have hbadd : badC rest[k] = true → Hid (R = ({}, 30)) := fun hb => Lib.hid (by
            rw [hR.out, core2_bad]
            exact List.any_eq_true.2 ⟨rest[k], List.getElem_mem hlt, hb⟩)
          by_cases h1 : rest[k].toNat < 33
          · have hR2 := hbadd (by simp [badC, h1])
            clear hbadd
            go_wp2_with (first | fail)
            refine bodyPost_ret (v := (.tuple #[(Value.agg #[(Value.string ⟨#[]⟩), (Value.string ⟨#[]⟩), (Value.bool false), (Value.int .u32 0), (Value.int .i64 0), (Value.string ⟨#[]⟩), (Value.bool false), (Value.string ⟨#[]⟩), (Value.string ⟨#[]⟩)]), .int .i64 30])) (by simp only [results, Tryz.results19]; go_simp) rfl ⟨by rw [ hR2.out] <;> rfl, ?_⟩; (exact bw_)
          · by_cases h2 : 126 < rest[k].toNat
            · have hR2 := hbadd (by simp [badC, h2])
              clear hbadd
              go_wp2_with (first | fail)
              refine bodyPost_ret (v := (.tuple #[(Value.agg #[(Value.string ⟨#[]⟩), (Value.string ⟨#[]⟩), (Value.bool false), (Value.int .u32 0), (Value.int .i64 0), (Value.string ⟨#[]⟩), (Value.bool false), (Value.string ⟨#[]⟩), (Value.string ⟨#[]⟩)]), .int .i64 30])) (by simp only [results, Tryz.results19]; go_simp) rfl ⟨by rw [ hR2.out] <;> rfl, ?_⟩; (exact bw_)
            · have hf : Hid ((rest.take (k + 1)).any badC = false) := Lib.hid (by rw [List.take_succ_eq_append_getElem hlt, List.any_append, hr.out]; simp [badC]; omega)
              clear hbadd
              go_wp2
              go_round
              case rel => exact ⟨k + 1, by omega, by go_num, rfl, hf⟩
              case measure => simp [intOf]; omega
        · have hf : Hid (rest.any badC = false) := Lib.hid (by rw [← hr.out, List.take_of_length_le (by omega)])
          go_wp2
          go_meet
          exact ⟨rfl, rfl, rfl, rfl, rfl, hf, _, rfl, by omega, bw_, bk_, bk_⟩
    case rest =>
      clear hB1 hw hB2 hs0 hc1 hz1 hs1 hc2 hz2 hg
      obtain ⟨rfl, rfl, rfl, rfl, rfl, hbad, g, rfl, hg, hw, hB1, hB2⟩ := hcut
      have hs1 := hB2.lt
      have hc2 := hB2.cell
      have hz2 := hB2.frozen
      have hs0 := hB1.lt
      have hc1 := hB1.cell
      have hz1 := hB1.frozen
      have hR2 := Lib.hid (hR.out.trans (core2_data Gl.netText rest hbad.out))
      unfold Gl.data at hR2
      go_wp2_with (first | fail)
      refine bodyPost_ret (v := (.tuple #[(Value.agg #[(Value.string ⟨([100, 97, 116, 97]).toArray⟩), (Value.string ⟨#[]⟩), (Value.bool false), (Value.int .u32 0), (Value.int .i64 (-1)), (Value.string ⟨#[]⟩), (Value.bool false), (Value.string ⟨#[]⟩), (Value.string ⟨(rest).toArray⟩)]), .int .i64 0])) (by simp only [results, Tryz.results19]; go_simp) rfl ⟨by rw [ hR2.out] <;> rfl, ?_⟩; (exact bw_)
  · clear hkn
    simp only [Gl.blob] at *
    have hpo : po = (-1) := hport.out.symm.trans (by rfl)
    subst hpo
    clear hport
    go_upto_block 5 with (first | (go_at_call 53; refine ( hsch.out _).mono ?_; rintro e w1 ⟨rfl, rfl⟩) | (go_at_call 50; refine (hcut2.out _ (bw_)).mono ?_; rintro e w1 ⟨rfl, hb⟩; obtain ⟨hc, hfz⟩ := bcell hb; have hz := hb.size; (try simp at hz); (try have hz0 := lt_ hb w.heap.size); (try have hz1 := lt_ hb (w.heap.size + 1)); (try have hz2 := lt_ hb (w.heap.size + 2)); (try have hz3 := lt_ hb (w.heap.size + 3)); (try have hcA := fun o => hc w.heap.size o sz_); (try have hcB := fun o => hc (w.heap.size + 1) o sz_); (try (have i := cf_ hb g; obtain ⟨hcGg, hfGg, hzGg⟩ := i))))
    go_cut [2, 3, 5, 6, 7, 8] (fun p2 z rs iz p7 ow w' => p2 = .pointer (some ⟨w.heap.size, 0, none⟩) ∧ z = .int .i64 0 ∧ rs = (Value.string ⟨(rest).toArray⟩) ∧ iz = .bool true ∧ ow = .int .i64 (-1) ∧ Hid (rest.any badC = false) ∧ ∃ g, p7 = .pointer (some ⟨g, 0, none⟩) ∧ w.heap.size < g ∧ Below w.heap.size w w' ∧ Blk w' w.heap.size 28 #[(Value.string ⟨#[]⟩), (Value.string ⟨#[]⟩), (Value.bool false), (Value.int .u32 0), (Value.int .i64 0), (Value.string ⟨#[]⟩), (Value.bool false), (Value.string ⟨#[]⟩), (Value.string ⟨#[]⟩)] ∧ Blk w' g 28 #[(Value.string ⟨([98, 108, 111, 98]).toArray⟩), (Value.string ⟨#[]⟩), (Value.bool false), (Value.int .u32 0), (Value.int .i64 (-1)), (Value.string ⟨#[]⟩), (Value.bool false), (Value.string ⟨#[]⟩), (Value.string ⟨#[]⟩)])
    case first =>
      go_wp2
      go_loop [3, 80] (fun z i => ∃ k : Nat, k ≤ rest.length ∧ i = .int .i64 k ∧ z = .int .i64 0 ∧ Hid ((rest.take k).any badC = false)) (fun _ i => rest.length - (intOf i).toNat)
      case atStart => exact ⟨0, by omega, rfl, rfl, Lib.hid rfl⟩
      case round =>
        obtain ⟨k, hk, rfl, rfl, hr⟩ := hrel
        by_cases hlt : k < rest.length
        · have hbadd : badC rest[k] = true → Hid (R = ({}, 30)) := fun hb => Lib.hid (by
            rw [hR.out, core2_bad]
            exact List.any_eq_true.2 ⟨rest[k], List.getElem_mem hlt, hb⟩)
          by_cases h1 : rest[k].toNat < 33
          · have hR2 := hbadd (by simp [badC, h1])
            clear hbadd
            go_wp2_with (first | fail)
            refine bodyPost_ret (v := (.tuple #[(Value.agg #[(Value.string ⟨#[]⟩), (Value.string ⟨#[]⟩), (Value.bool false), (Value.int .u32 0), (Value.int .i64 0), (Value.string ⟨#[]⟩), (Value.bool false), (Value.string ⟨#[]⟩), (Value.string ⟨#[]⟩)]), .int .i64 30])) (by simp only [results, Tryz.results19]; go_simp) rfl ⟨by rw [ hR2.out] <;> rfl, ?_⟩; (exact bw_)
          · by_cases h2 : 126 < rest[k].toNat
            · have hR2 := hbadd (by simp [badC, h2])
              clear hbadd
              go_wp2_with (first | fail)
              refine bodyPost_ret (v := (.tuple #[(Value.agg #[(Value.string ⟨#[]⟩), (Value.string ⟨#[]⟩), (Value.bool false), (Value.int .u32 0), (Value.int .i64 0), (Value.string ⟨#[]⟩), (Value.bool false), (Value.string ⟨#[]⟩), (Value.string ⟨#[]⟩)]), .int .i64 30])) (by simp only [results, Tryz.results19]; go_simp) rfl ⟨by rw [ hR2.out] <;> rfl, ?_⟩; (exact bw_)
            · have hf : Hid ((rest.take (k + 1)).any badC = false) := Lib.hid (by rw [List.take_succ_eq_append_getElem hlt, List.any_append, hr.out]; simp [badC]; omega)
              clear hbadd
              go_wp2
              go_round
              case rel => exact ⟨k + 1, by omega, by go_num, rfl, hf⟩
              case measure => simp [intOf]; omega
        · have hf : Hid (rest.any badC = false) := Lib.hid (by rw [← hr.out, List.take_of_length_le (by omega)])
          go_wp2
          go_meet
          exact ⟨rfl, rfl, rfl, rfl, rfl, hf, _, rfl, by omega, bw_, bk_, bk_⟩
    case rest =>
      clear hB1 hw hB2 hs0 hc1 hz1 hs1 hc2 hz2 hg
      obtain ⟨rfl, rfl, rfl, rfl, rfl, hbad, g, rfl, hg, hw, hB1, hB2⟩ := hcut
      have hs1 := hB2.lt
      have hc2 := hB2.cell
      have hz2 := hB2.frozen
      have hs0 := hB1.lt
      have hc1 := hB1.cell
      have hz1 := hB1.frozen
      have hR2 := hR.out.trans (core2_blob Gl.netText rest hbad.out)
      have hin := fun (W : World) (hW : Below w.heap.size w W) => urlp_inner_of { scheme := [98, 108, 111, 98], rest := rest } W (fun W' hW' => ih rest W' (by omega) (by omega) ((hE.below hW).below hW'))
      have hnull := fun W => hasPrefix_any rest [110, 117, 108, 108, 47] W
      rw [net_parse rest] at hR2
      unfold Gl.nullS Gl.blob at hR2
      have hio : (Gl.innerOf { scheme := [98, 108, 111, 98], rest := rest }).2 = ((Gl.parse rest).2 == 0 && Gl.isNet (Gl.parse rest).1) := innerOf_net rest
      rw [← hio] at hR2
      generalize Gl.innerOf { scheme := [98, 108, 111, 98], rest := rest } = ip at *
      obtain ⟨iu, ib⟩ := ip
      simp only at hR2 hin
      clear ih hio
      replace hin := Lib.hid hin
      cases hnu : ([110, 117, 108, 108, 47] : List UInt8).isPrefixOf rest with
      | true =>
        rw [hnu] at hR2 hnull
        replace hnull := Lib.hid hnull
        replace hnu := Lib.hid hnu
        cases ib with
        | true =>
          replace hR2 : Hid (R = ({ scheme := [98, 108, 111, 98], port := -1, rest := rest }, 0)) := Lib.hid hR2
          go_wp2_with (first | (go_at_call 47; refine (hin.out _ (bw_)).mono ?_; rintro e w1 ⟨rfl, hb⟩; obtain ⟨hc, hfz⟩ := bcell hb; have hz := hb.size; (try simp at hz); (try have hz0 := lt_ hb w.heap.size); (try have hz1 := lt_ hb (w.heap.size + 1)); (try have hz2 := lt_ hb (w.heap.size + 2)); (try have hz3 := lt_ hb (w.heap.size + 3)); (try have hcA := fun o => hc w.heap.size o sz_); (try have hcB := fun o => hc (w.heap.size + 1) o sz_); (try (have i := cf_ hb g; obtain ⟨hcGg, hfGg, hzGg⟩ := i))) | (go_at_call 55; refine ( hnull.out _).mono ?_; rintro e w1 ⟨rfl, rfl⟩))
          refine bodyPost_ret (v := (.tuple #[(Value.agg #[(Value.string ⟨([98, 108, 111, 98]).toArray⟩), (Value.string ⟨#[]⟩), (Value.bool false), (Value.int .u32 0), (Value.int .i64 (-1)), (Value.string ⟨#[]⟩), (Value.bool false), (Value.string ⟨#[]⟩), (Value.string ⟨(rest).toArray⟩)]), .int .i64 0])) (by simp only [results, Tryz.results19]; go_simp) rfl ⟨by rw [ hR2.out] <;> rfl, ?_⟩; (exact bw_)
        | false =>
          replace hR2 : Hid (R = ({ scheme := [98, 108, 111, 98], port := -1, rest := rest }, 0)) := Lib.hid hR2
          go_wp2_with (first | (go_at_call 47; refine (hin.out _ (bw_)).mono ?_; rintro e w1 ⟨rfl, hb⟩; obtain ⟨hc, hfz⟩ := bcell hb; have hz := hb.size; (try simp at hz); (try have hz0 := lt_ hb w.heap.size); (try have hz1 := lt_ hb (w.heap.size + 1)); (try have hz2 := lt_ hb (w.heap.size + 2)); (try have hz3 := lt_ hb (w.heap.size + 3)); (try have hcA := fun o => hc w.heap.size o sz_); (try have hcB := fun o => hc (w.heap.size + 1) o sz_); (try (have i := cf_ hb g; obtain ⟨hcGg, hfGg, hzGg⟩ := i))) | (go_at_call 55; refine ( hnull.out _).mono ?_; rintro e w1 ⟨rfl, rfl⟩))
          refine bodyPost_ret (v := (.tuple #[(Value.agg #[(Value.string ⟨([98, 108, 111, 98]).toArray⟩), (Value.string ⟨#[]⟩), (Value.bool false), (Value.int .u32 0), (Value.int .i64 (-1)), (Value.string ⟨#[]⟩), (Value.bool false), (Value.string ⟨#[]⟩), (Value.string ⟨(rest).toArray⟩)]), .int .i64 0])) (by simp only [results, Tryz.results19]; go_simp) rfl ⟨by rw [ hR2.out] <;> rfl, ?_⟩; (exact bw_)
      | false =>
        rw [hnu] at hR2 hnull
        replace hnull := Lib.hid hnull
        replace hnu := Lib.hid hnu
        cases ib with
        | true =>
          replace hR2 : Hid (R = ({ scheme := [98, 108, 111, 98], port := -1, rest := rest }, 0)) := Lib.hid hR2
          go_wp2_with (first | (go_at_call 47; refine (hin.out _ (bw_)).mono ?_; rintro e w1 ⟨rfl, hb⟩; obtain ⟨hc, hfz⟩ := bcell hb; have hz := hb.size; (try simp at hz); (try have hz0 := lt_ hb w.heap.size); (try have hz1 := lt_ hb (w.heap.size + 1)); (try have hz2 := lt_ hb (w.heap.size + 2)); (try have hz3 := lt_ hb (w.heap.size + 3)); (try have hcA := fun o => hc w.heap.size o sz_); (try have hcB := fun o => hc (w.heap.size + 1) o sz_); (try (have i := cf_ hb g; obtain ⟨hcGg, hfGg, hzGg⟩ := i))) | (go_at_call 55; refine ( hnull.out _).mono ?_; rintro e w1 ⟨rfl, rfl⟩))
          refine bodyPost_ret (v := (.tuple #[(Value.agg #[(Value.string ⟨([98, 108, 111, 98]).toArray⟩), (Value.string ⟨#[]⟩), (Value.bool false), (Value.int .u32 0), (Value.int .i64 (-1)), (Value.string ⟨#[]⟩), (Value.bool false), (Value.string ⟨#[]⟩), (Value.string ⟨(rest).toArray⟩)]), .int .i64 0])) (by simp only [results, Tryz.results19]; go_simp) rfl ⟨by rw [ hR2.out] <;> rfl, ?_⟩; (exact bw_)
        | false =>
          replace hR2 : Hid (R = ({}, 30)) := Lib.hid hR2
          go_wp2_with (first | (go_at_call 47; refine (hin.out _ (bw_)).mono ?_; rintro e w1 ⟨rfl, hb⟩; obtain ⟨hc, hfz⟩ := bcell hb; have hz := hb.size; (try simp at hz); (try have hz0 := lt_ hb w.heap.size); (try have hz1 := lt_ hb (w.heap.size + 1)); (try have hz2 := lt_ hb (w.heap.size + 2)); (try have hz3 := lt_ hb (w.heap.size + 3)); (try have hcA := fun o => hc w.heap.size o sz_); (try have hcB := fun o => hc (w.heap.size + 1) o sz_); (try (have i := cf_ hb g; obtain ⟨hcGg, hfGg, hzGg⟩ := i))) | (go_at_call 55; refine ( hnull.out _).mono ?_; rintro e w1 ⟨rfl, rfl⟩))
          refine bodyPost_ret (v := (.tuple #[(Value.agg #[(Value.string ⟨#[]⟩), (Value.string ⟨#[]⟩), (Value.bool false), (Value.int .u32 0), (Value.int .i64 0), (Value.string ⟨#[]⟩), (Value.bool false), (Value.string ⟨#[]⟩), (Value.string ⟨#[]⟩)]), .int .i64 30])) (by simp only [results, Tryz.results19]; go_simp) rfl ⟨by rw [ hR2.out] <;> rfl, ?_⟩; (exact bw_)
end Go.Proofs.YtbafofldgkigmaaGreatDoor
