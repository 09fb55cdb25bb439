/- glacisref03.Parse. -/
import Derived.Test.YtbafofldgkigmaaGreatDoorThree
import Derived.Test.YtbafofldgkigmaaGreatDoorRefThree
import Derived.Test.YtbafofldgkigmaaGreatDoorOne
namespace Go.Proofs.YtbafofldgkigmaaGreatDoor
open Go.RowKit
attribute [local irreducible] Calls

set_option maxHeartbeats 4000000 in
set_option maxRecDepth 100000 in
theorem ref3_parse_n (n : Nat) : ∀ (s0 : List UInt8) (w : World), s0.length ≤ 281474976710656 → s0.length < n →
    Calls Tryz.prog 123 #[(Value.string ⟨(s0).toArray⟩)] w (Ret w (.tuple #[(Value.agg #[(Value.string ⟨(((Gl.parse s0).1).scheme).toArray⟩), (Value.string ⟨((((Gl.parse s0).1).host).name).toArray⟩), (Value.bool (((Gl.parse s0).1).host).v4), (Value.int .u32 ((((Gl.parse s0).1).host).addr : Int)), (Value.int .i64 ((Gl.parse s0).1).port), (Value.string ⟨(((Gl.parse s0).1).path).toArray⟩), (Value.bool ((Gl.parse s0).1).hasQuery), (Value.string ⟨(((Gl.parse s0).1).query).toArray⟩), (Value.string ⟨(((Gl.parse s0).1).rest).toArray⟩)]), .int .i64 (Gl.parse s0).2])) := by
  induction n with
  | zero => intro s0 w h1 h2; omega
  | succ n ih =>
  intro s0 w hs0 hsn
  have hC1 := core_long Gl.netText s0
  have hC2 := core_form Gl.netText s0
  have hC3 := core_rest Gl.netText s0
  have hRR : Gl.parse s0 = Gl.core Gl.netText s0 := rfl
  generalize Gl.parse s0 = R at *
  rw [← hRR] at hC1 hC2 hC3
  clear hRR
  have htl := trim_len s0
  have htrim := fun W => ref3_trim s0 W hs0
  generalize hS : Gl.trim s0 = S at *
  replace htrim := Lib.hid htrim
  by_cases hl : 2000 < S.length
  · have hR := Lib.hid (hC1 hl)
    clear hC1 hC2 hC3
    go_enter Tryz.func123, Tryz.ntmps123
    go_wp2_with (first | (go_at_call 144; refine ( htrim _).mono ?_; rintro e w1 ⟨rfl, rfl⟩) | (go_at_call 145; refine (ref3_fails 30 _).mono ?_; rintro e w1 ⟨rfl, hb⟩; obtain ⟨hc, hfz⟩ := bcell hb; have hz := hb.size; (try simp at hz); (try have hz0 := lt_ hb w.heap.size); (try have hz1 := lt_ hb (w.heap.size + 1)); (try have hz2 := lt_ hb (w.heap.size + 2)); (try have hz3 := lt_ hb (w.heap.size + 3)); (try have hcA := fun o => hc w.heap.size o sz_); (try have hcB := fun o => hc (w.heap.size + 1) o sz_); (try (have i := cf_ hb g; obtain ⟨hcGg, hfGg, hzGg⟩ := i))))
    refine bodyPost_ret (v := (.tuple #[(Value.agg #[(Value.string ⟨#[]⟩), (Value.string ⟨#[]⟩), (Value.bool false), (Value.int .u32 0), (Value.int .i64 0), (Value.string ⟨#[]⟩), (Value.bool false), (Value.string ⟨#[]⟩), (Value.string ⟨#[]⟩)]), .int .i64 30])) (by simp only [results, Tryz.results123]; go_simp) rfl ⟨by rw [ hR.out] <;> rfl, ?_⟩; (exact bw_)
  replace hC3 := hC3 hl
  clear hC1
  have hSl : S.length ≤ 2000 := by omega
  clear hl
  have hspl := span_len [58] S
  have hcut1 := fun W => ref3_cut S [58] W (by omega) (by decide)
  generalize hfr : Gl.span [58] S = fr at *
  obtain ⟨f, r⟩ := fr
  simp only at hC2 hC3 hspl hcut1
  have hlow := fun W => ref1_lower f W (by omega)
  have hscl := lower_length f
  generalize hlf : Gl.lower f = sc at *
  cases r with
  | nil =>
    have hR := Lib.hid (hC2 (Or.inl rfl))
    clear hC2 hC3
    have hsch := fun W => ref3_scheme sc W (by omega)
    replace hcut1 := Lib.hid hcut1
    replace hlow := Lib.hid hlow
    cases hk : Gl.scheme sc with
    | false =>
      rw [hk] at hsch
      replace hsch := Lib.hid hsch
      go_enter Tryz.func123, Tryz.ntmps123
      go_wp2_with (first | (go_at_call 144; refine ( htrim _).mono ?_; rintro e w1 ⟨rfl, rfl⟩) | ((first | (go_at_call 146; refine (hcut1 _).mono ?_) | (go_at_call 141; refine (hlow _).mono ?_) | (go_at_call 145; refine (ref3_fails 30 _).mono ?_)); rintro e w1 ⟨rfl, hb⟩; obtain ⟨hc, hfz⟩ := bcell hb; have hz := hb.size; (try simp at hz); (try have hz0 := lt_ hb w.heap.size); (try have hz1 := lt_ hb (w.heap.size + 1)); (try have hz2 := lt_ hb (w.heap.size + 2)); (try have hz3 := lt_ hb (w.heap.size + 3)); (try have hcA := fun o => hc w.heap.size o sz_); (try have hcB := fun o => hc (w.heap.size + 1) o sz_); (try (have i := cf_ hb g; obtain ⟨hcGg, hfGg, hzGg⟩ := i))) | (go_at_call 147; refine ( hsch _).mono ?_; rintro e w1 ⟨rfl, rfl⟩))
      refine bodyPost_ret (v := (.tuple #[(Value.agg #[(Value.string ⟨#[]⟩), (Value.string ⟨#[]⟩), (Value.bool false), (Value.int .u32 0), (Value.int .i64 0), (Value.string ⟨#[]⟩), (Value.bool false), (Value.string ⟨#[]⟩), (Value.string ⟨#[]⟩)]), .int .i64 30])) (by simp only [results, Tryz.results123]; go_simp) rfl ⟨by rw [ hR.out] <;> rfl, ?_⟩; (exact bw_)
    | true =>
      rw [hk] at hsch
      replace hsch := Lib.hid hsch
      go_enter Tryz.func123, Tryz.ntmps123
      go_wp2_with (first | (go_at_call 144; refine ( htrim _).mono ?_; rintro e w1 ⟨rfl, rfl⟩) | ((first | (go_at_call 146; refine (hcut1 _).mono ?_) | (go_at_call 141; refine (hlow _).mono ?_) | (go_at_call 145; refine (ref3_fails 30 _).mono ?_)); rintro e w1 ⟨rfl, hb⟩; obtain ⟨hc, hfz⟩ := bcell hb; have hz := hb.size; (try simp at hz); (try have hz0 := lt_ hb w.heap.size); (try have hz1 := lt_ hb (w.heap.size + 1)); (try have hz2 := lt_ hb (w.heap.size + 2)); (try have hz3 := lt_ hb (w.heap.size + 3)); (try have hcA := fun o => hc w.heap.size o sz_); (try have hcB := fun o => hc (w.heap.size + 1) o sz_); (try (have i := cf_ hb g; obtain ⟨hcGg, hfGg, hzGg⟩ := i))) | (go_at_call 147; refine ( hsch _).mono ?_; rintro e w1 ⟨rfl, rfl⟩))
      refine bodyPost_ret (v := (.tuple #[(Value.agg #[(Value.string ⟨#[]⟩), (Value.string ⟨#[]⟩), (Value.bool false), (Value.int .u32 0), (Value.int .i64 0), (Value.string ⟨#[]⟩), (Value.bool false), (Value.string ⟨#[]⟩), (Value.string ⟨#[]⟩)]), .int .i64 30])) (by simp only [results, Tryz.results123]; go_simp) rfl ⟨by rw [ hR.out] <;> rfl, ?_⟩; (exact bw_)
  | cons rc r =>
  have hsch := fun W => ref3_scheme sc W (by omega)
  cases hk : Gl.scheme sc with
  | false =>
    have hR := Lib.hid (hC2 (Or.inr hk))
    clear hC2 hC3
    rw [hk] at hsch
    replace hsch := Lib.hid hsch
    replace hcut1 := Lib.hid hcut1
    replace hlow := Lib.hid hlow
    go_enter Tryz.func123, Tryz.ntmps123
    go_wp2_with (first | (go_at_call 144; refine ( htrim _).mono ?_; rintro e w1 ⟨rfl, rfl⟩) | ((first | (go_at_call 146; refine (hcut1 _).mono ?_) | (go_at_call 141; refine (hlow _).mono ?_) | (go_at_call 145; refine (ref3_fails 30 _).mono ?_)); rintro e w1 ⟨rfl, hb⟩; obtain ⟨hc, hfz⟩ := bcell hb; have hz := hb.size; (try simp at hz); (try have hz0 := lt_ hb w.heap.size); (try have hz1 := lt_ hb (w.heap.size + 1)); (try have hz2 := lt_ hb (w.heap.size + 2)); (try have hz3 := lt_ hb (w.heap.size + 3)); (try have hcA := fun o => hc w.heap.size o sz_); (try have hcB := fun o => hc (w.heap.size + 1) o sz_); (try (have i := cf_ hb g; obtain ⟨hcGg, hfGg, hzGg⟩ := i))) | (go_at_call 147; refine ( hsch _).mono ?_; rintro e w1 ⟨rfl, rfl⟩))
    refine bodyPost_ret (v := (.tuple #[(Value.agg #[(Value.string ⟨#[]⟩), (Value.string ⟨#[]⟩), (Value.bool false), (Value.int .u32 0), (Value.int .i64 0), (Value.string ⟨#[]⟩), (Value.bool false), (Value.string ⟨#[]⟩), (Value.string ⟨#[]⟩)]), .int .i64 30])) (by simp only [results, Tryz.results123]; go_simp) rfl ⟨by rw [ hR.out] <;> rfl, ?_⟩; (exact bw_)
  | true =>
  rw [hk] at hsch
  replace hC3 := hC3 (by simp) hk
  clear hC2
  simp only [List.drop_succ_cons, List.drop_zero] at hC3
  simp only [List.length_cons] at hspl
  replace hsch := Lib.hid hsch
  replace hcut1 := Lib.hid hcut1
  replace hlow := Lib.hid hlow
  have hspl2 := span_len [35] r
  have hcut2 := fun W => ref3_cut r [35] W (by omega) (by decide)
  generalize hrr : Gl.span [35] r = rr at *
  obtain ⟨rest, num⟩ := rr
  simp only at hC3 hspl2 hcut2
  replace hcut2 := Lib.hid hcut2
  replace hrr := Lib.hid hrr
  replace hlf := Lib.hid hlf
  replace hfr := Lib.hid hfr
  replace hk := Lib.hid hk
  cases hkn : known sc with
  | false =>
    have hR := hC3
    rw [hkn] at hR
    replace hR : Hid (R = ({}, 31)) := Lib.hid hR
    have hkk := hkn
    unfold known at hkk
    simp only [Bool.or_eq_false_iff] at hkk
    obtain ⟨⟨⟨⟨k1, k2⟩, k3⟩, k4⟩, k5⟩ := hkk
    unfold Gl.http at k1
    unfold Gl.https at k2
    unfold Gl.about at k3
    unfold Gl.data at k4
    unfold Gl.blob at k5
    clear hC3 hkn
    go_enter Tryz.func123, Tryz.ntmps123
    go_wp2_with (first | (go_at_call 144; refine ( htrim _).mono ?_; rintro e w1 ⟨rfl, rfl⟩) | ((first | (go_at_call 146; refine (hcut1 _).mono ?_) | (go_at_call 141; refine (hlow _).mono ?_) | (go_at_call 145; refine (ref3_fails 31 _).mono ?_)); rintro e w1 ⟨rfl, hb⟩; obtain ⟨hc, hfz⟩ := bcell hb; have hz := hb.size; (try simp at hz); (try have hz0 := lt_ hb w.heap.size); (try have hz1 := lt_ hb (w.heap.size + 1)); (try have hz2 := lt_ hb (w.heap.size + 2)); (try have hz3 := lt_ hb (w.heap.size + 3)); (try have hcA := fun o => hc w.heap.size o sz_); (try have hcB := fun o => hc (w.heap.size + 1) o sz_); (try (have i := cf_ hb g; obtain ⟨hcGg, hfGg, hzGg⟩ := i))) | (go_at_call 147; refine ( hsch _).mono ?_; rintro e w1 ⟨rfl, rfl⟩))
    refine bodyPost_ret (v := (.tuple #[(Value.agg #[(Value.string ⟨#[]⟩), (Value.string ⟨#[]⟩), (Value.bool false), (Value.int .u32 0), (Value.int .i64 0), (Value.string ⟨#[]⟩), (Value.bool false), (Value.string ⟨#[]⟩), (Value.string ⟨#[]⟩)]), .int .i64 31])) (by simp only [results, Tryz.results123]; go_simp) rfl ⟨by rw [ hR.out] <;> rfl, ?_⟩; (exact bw_)
  | true =>
  have hR := hC3
  rw [if_pos hkn] at hR
  replace hR := Lib.hid hR
  clear hC3
  rcases known_cases hkn with rfl | rfl | rfl | rfl | rfl
  · clear hkn
    simp only [Gl.http] at *
    go_enter Tryz.func123, Tryz.ntmps123
    go_upto_block 0 with (first | (go_at_call 144; refine ( htrim _).mono ?_; rintro e w1 ⟨rfl, rfl⟩) | ((first | (go_at_call 146; refine (hcut1 _).mono ?_) | (go_at_call 141; refine (hlow _).mono ?_) | (go_at_call 146; refine (hcut2 _).mono ?_)); rintro e w1 ⟨rfl, hb⟩; obtain ⟨hc, hfz⟩ := bcell hb; have hz := hb.size; (try simp at hz); (try have hz0 := lt_ hb w.heap.size); (try have hz1 := lt_ hb (w.heap.size + 1)); (try have hz2 := lt_ hb (w.heap.size + 2)); (try have hz3 := lt_ hb (w.heap.size + 3)); (try have hcA := fun o => hc w.heap.size o sz_); (try have hcB := fun o => hc (w.heap.size + 1) o sz_); (try (have i := cf_ hb g; obtain ⟨hcGg, hfGg, hzGg⟩ := i))) | (go_at_call 147; refine ( hsch _).mono ?_; rintro e w1 ⟨rfl, rfl⟩))
    go_cut [2, 3, 5, 6, 8] (fun p2 z rs p6 nt w' => p2 = .pointer (some ⟨w.heap.size, 0, none⟩) ∧ z = .int .i64 0 ∧ rs = (Value.string ⟨(rest).toArray⟩) ∧ nt = .bool true ∧ Hid (rest.any badC = false) ∧ ∃ g, p6 = .pointer (some ⟨g, 0, none⟩) ∧ w.heap.size < g ∧ Below w.heap.size w w' ∧ Blk w' w.heap.size 28 #[(Value.string ⟨#[]⟩), (Value.string ⟨#[]⟩), (Value.bool false), (Value.int .u32 0), (Value.int .i64 0), (Value.string ⟨#[]⟩), (Value.bool false), (Value.string ⟨#[]⟩), (Value.string ⟨#[]⟩)] ∧ Blk w' g 28 #[(Value.string ⟨([104, 116, 116, 112]).toArray⟩), (Value.string ⟨#[]⟩), (Value.bool false), (Value.int .u32 0), (Value.int .i64 (-1)), (Value.string ⟨#[]⟩), (Value.bool false), (Value.string ⟨#[]⟩), (Value.string ⟨#[]⟩)])
    case first =>
      go_wp2
      go_loop [3, 9] (fun z i => ∃ k : Nat, k ≤ rest.length ∧ i = .int .i64 k ∧ z = .int .i64 0 ∧ Hid ((rest.take k).any badC = false)) (fun _ i => rest.length - (intOf i).toNat)
      case atStart => exact ⟨0, by omega, rfl, rfl, Lib.hid rfl⟩
      case round =>
        obtain ⟨k, hk, rfl, rfl, hr⟩ := hrel
        by_cases hlt : k < rest.length
        · have hbadd : badC rest[k] = true → Hid (R = ({}, 30)) := fun hb => Lib.hid (by
            rw [hR.out, core2_bad]
            exact List.any_eq_true.2 ⟨rest[k], List.getElem_mem hlt, hb⟩)
          by_cases h1 : rest[k].toNat < 33
          · have hR2 := hbadd (by simp [badC, h1])
            clear hbadd
            go_wp2_with (first | (go_at_call 145; refine (ref3_fails 30 _).mono ?_; rintro e w1 ⟨rfl, hb⟩; obtain ⟨hc, hfz⟩ := bcell hb; have hz := hb.size; (try simp at hz); (try have hz0 := lt_ hb w.heap.size); (try have hz1 := lt_ hb (w.heap.size + 1)); (try have hz2 := lt_ hb (w.heap.size + 2)); (try have hz3 := lt_ hb (w.heap.size + 3)); (try have hcA := fun o => hc w.heap.size o sz_); (try have hcB := fun o => hc (w.heap.size + 1) o sz_); (try (have i := cf_ hb g; obtain ⟨hcGg, hfGg, hzGg⟩ := i))))
            refine bodyPost_ret (v := (.tuple #[(Value.agg #[(Value.string ⟨#[]⟩), (Value.string ⟨#[]⟩), (Value.bool false), (Value.int .u32 0), (Value.int .i64 0), (Value.string ⟨#[]⟩), (Value.bool false), (Value.string ⟨#[]⟩), (Value.string ⟨#[]⟩)]), .int .i64 30])) (by simp only [results, Tryz.results123]; go_simp) rfl ⟨by rw [ hR2.out] <;> rfl, ?_⟩; (exact bw_)
          · by_cases h2 : 126 < rest[k].toNat
            · have hR2 := hbadd (by simp [badC, h2])
              clear hbadd
              go_wp2_with (first | (go_at_call 145; refine (ref3_fails 30 _).mono ?_; rintro e w1 ⟨rfl, hb⟩; obtain ⟨hc, hfz⟩ := bcell hb; have hz := hb.size; (try simp at hz); (try have hz0 := lt_ hb w.heap.size); (try have hz1 := lt_ hb (w.heap.size + 1)); (try have hz2 := lt_ hb (w.heap.size + 2)); (try have hz3 := lt_ hb (w.heap.size + 3)); (try have hcA := fun o => hc w.heap.size o sz_); (try have hcB := fun o => hc (w.heap.size + 1) o sz_); (try (have i := cf_ hb g; obtain ⟨hcGg, hfGg, hzGg⟩ := i))))
              refine bodyPost_ret (v := (.tuple #[(Value.agg #[(Value.string ⟨#[]⟩), (Value.string ⟨#[]⟩), (Value.bool false), (Value.int .u32 0), (Value.int .i64 0), (Value.string ⟨#[]⟩), (Value.bool false), (Value.string ⟨#[]⟩), (Value.string ⟨#[]⟩)]), .int .i64 30])) (by simp only [results, Tryz.results123]; go_simp) rfl ⟨by rw [ hR2.out] <;> rfl, ?_⟩; (exact bw_)
            · have hf : Hid ((rest.take (k + 1)).any badC = false) := Lib.hid (by rw [List.take_succ_eq_append_getElem hlt, List.any_append, hr.out]; simp [badC]; omega)
              clear hbadd
              go_wp2
              go_round
              case rel => exact ⟨k + 1, by omega, by go_num, rfl, hf⟩
              case measure => simp [intOf]; omega
        · have hf : Hid (rest.any badC = false) := Lib.hid (by rw [← hr.out, List.take_of_length_le (by omega)])
          go_wp2
          go_meet
          exact ⟨rfl, rfl, rfl, rfl, hf, _, rfl, by omega, bw_, bk_, bk_⟩
    case rest =>
      obtain ⟨rfl, rfl, rfl, rfl, hbad, g, rfl, hg, hw, hB1, hB2⟩ := hcut
      have hs0 := hB1.lt
      have hs1 := hB2.lt
      have hc1 := hB1.cell
      have hc2 := hB2.cell
      have hz1 := hB1.frozen
      have hz2 := hB2.frozen
      have hR2 := hR.out.trans (core2_net Gl.netText [104, 116, 116, 112] rest hbad.out (Or.inl rfl))
      have hweb : Hid (∀ W, Calls Tryz.prog 148 #[(Value.agg #[(Value.string ⟨([104, 116, 116, 112]).toArray⟩), (Value.string ⟨#[]⟩), (Value.bool false), (Value.int .u32 0), (Value.int .i64 (-1)), (Value.string ⟨#[]⟩), (Value.bool false), (Value.string ⟨#[]⟩), (Value.string ⟨(([] : List UInt8)).toArray⟩)]), (Value.string ⟨(rest).toArray⟩)] W (Ret W (.tuple #[(Value.agg #[(Value.string ⟨((R.1).scheme).toArray⟩), (Value.string ⟨(((R.1).host).name).toArray⟩), (Value.bool ((R.1).host).v4), (Value.int .u32 (((R.1).host).addr : Int)), (Value.int .i64 (R.1).port), (Value.string ⟨((R.1).path).toArray⟩), (Value.bool (R.1).hasQuery), (Value.string ⟨((R.1).query).toArray⟩), (Value.string ⟨((R.1).rest).toArray⟩)]), .int .i64 R.2]))) := Lib.hid (fun W => by
        rw [hR2]
        exact ref3_web { scheme := [104, 116, 116, 112], port := -1 } rest W (by omega) rfl rfl)
      replace hR2 := Lib.hid hR2
      go_wp2_with (first | (go_at_call 148; refine (hweb.out _).mono ?_; rintro e w1 ⟨rfl, hb⟩; obtain ⟨hc, hfz⟩ := bcell hb; have hz := hb.size; (try simp at hz); (try have hz0 := lt_ hb w.heap.size); (try have hz1 := lt_ hb (w.heap.size + 1)); (try have hz2 := lt_ hb (w.heap.size + 2)); (try have hz3 := lt_ hb (w.heap.size + 3)); (try have hcA := fun o => hc w.heap.size o sz_); (try have hcB := fun o => hc (w.heap.size + 1) o sz_); (try (have i := cf_ hb g; obtain ⟨hcGg, hfGg, hzGg⟩ := i))))
      refine bodyPost_ret (v := .tuple #[(Value.agg #[(Value.string ⟨((R.1).scheme).toArray⟩), (Value.string ⟨(((R.1).host).name).toArray⟩), (Value.bool ((R.1).host).v4), (Value.int .u32 (((R.1).host).addr : Int)), (Value.int .i64 (R.1).port), (Value.string ⟨((R.1).path).toArray⟩), (Value.bool (R.1).hasQuery), (Value.string ⟨((R.1).query).toArray⟩), (Value.string ⟨((R.1).rest).toArray⟩)]), .int .i64 R.2]) (by simp only [results, Tryz.results123]; go_simp) rfl ⟨rfl, ?_⟩
      (exact bw_)
  · clear hkn
    simp only [Gl.https] at *
    go_enter Tryz.func123, Tryz.ntmps123
    go_upto_block 0 with (first | (go_at_call 144; refine ( htrim _).mono ?_; rintro e w1 ⟨rfl, rfl⟩) | ((first | (go_at_call 146; refine (hcut1 _).mono ?_) | (go_at_call 141; refine (hlow _).mono ?_) | (go_at_call 146; refine (hcut2 _).mono ?_)); rintro e w1 ⟨rfl, hb⟩; obtain ⟨hc, hfz⟩ := bcell hb; have hz := hb.size; (try simp at hz); (try have hz0 := lt_ hb w.heap.size); (try have hz1 := lt_ hb (w.heap.size + 1)); (try have hz2 := lt_ hb (w.heap.size + 2)); (try have hz3 := lt_ hb (w.heap.size + 3)); (try have hcA := fun o => hc w.heap.size o sz_); (try have hcB := fun o => hc (w.heap.size + 1) o sz_); (try (have i := cf_ hb g; obtain ⟨hcGg, hfGg, hzGg⟩ := i))) | (go_at_call 147; refine ( hsch _).mono ?_; rintro e w1 ⟨rfl, rfl⟩))
    go_cut [2, 3, 5, 6, 8] (fun p2 z rs p6 nt w' => p2 = .pointer (some ⟨w.heap.size, 0, none⟩) ∧ z = .int .i64 0 ∧ rs = (Value.string ⟨(rest).toArray⟩) ∧ nt = .bool true ∧ Hid (rest.any badC = false) ∧ ∃ g, p6 = .pointer (some ⟨g, 0, none⟩) ∧ w.heap.size < g ∧ Below w.heap.size w w' ∧ Blk w' w.heap.size 28 #[(Value.string ⟨#[]⟩), (Value.string ⟨#[]⟩), (Value.bool false), (Value.int .u32 0), (Value.int .i64 0), (Value.string ⟨#[]⟩), (Value.bool false), (Value.string ⟨#[]⟩), (Value.string ⟨#[]⟩)] ∧ Blk w' g 28 #[(Value.string ⟨([104, 116, 116, 112, 115]).toArray⟩), (Value.string ⟨#[]⟩), (Value.bool false), (Value.int .u32 0), (Value.int .i64 (-1)), (Value.string ⟨#[]⟩), (Value.bool false), (Value.string ⟨#[]⟩), (Value.string ⟨#[]⟩)])
    case first =>
      go_wp2
      go_loop [3, 9] (fun z i => ∃ k : Nat, k ≤ rest.length ∧ i = .int .i64 k ∧ z = .int .i64 0 ∧ Hid ((rest.take k).any badC = false)) (fun _ i => rest.length - (intOf i).toNat)
      case atStart => exact ⟨0, by omega, rfl, rfl, Lib.hid rfl⟩
      case round =>
        obtain ⟨k, hk, rfl, rfl, hr⟩ := hrel
        by_cases hlt : k < rest.length
        · have hbadd : badC rest[k] = true → Hid (R = ({}, 30)) := fun hb => Lib.hid (by
            rw [hR.out, core2_bad]
            exact List.any_eq_true.2 ⟨rest[k], List.getElem_mem hlt, hb⟩)
          by_cases h1 : rest[k].toNat < 33
          · have hR2 := hbadd (by simp [badC, h1])
            clear hbadd
            go_wp2_with (first | (go_at_call 145; refine (ref3_fails 30 _).mono ?_; rintro e w1 ⟨rfl, hb⟩; obtain ⟨hc, hfz⟩ := bcell hb; have hz := hb.size; (try simp at hz); (try have hz0 := lt_ hb w.heap.size); (try have hz1 := lt_ hb (w.heap.size + 1)); (try have hz2 := lt_ hb (w.heap.size + 2)); (try have hz3 := lt_ hb (w.heap.size + 3)); (try have hcA := fun o => hc w.heap.size o sz_); (try have hcB := fun o => hc (w.heap.size + 1) o sz_); (try (have i := cf_ hb g; obtain ⟨hcGg, hfGg, hzGg⟩ := i))))
            refine bodyPost_ret (v := (.tuple #[(Value.agg #[(Value.string ⟨#[]⟩), (Value.string ⟨#[]⟩), (Value.bool false), (Value.int .u32 0), (Value.int .i64 0), (Value.string ⟨#[]⟩), (Value.bool false), (Value.string ⟨#[]⟩), (Value.string ⟨#[]⟩)]), .int .i64 30])) (by simp only [results, Tryz.results123]; go_simp) rfl ⟨by rw [ hR2.out] <;> rfl, ?_⟩; (exact bw_)
          · by_cases h2 : 126 < rest[k].toNat
            · have hR2 := hbadd (by simp [badC, h2])
              clear hbadd
              go_wp2_with (first | (go_at_call 145; refine (ref3_fails 30 _).mono ?_; rintro e w1 ⟨rfl, hb⟩; obtain ⟨hc, hfz⟩ := bcell hb; have hz := hb.size; (try simp at hz); (try have hz0 := lt_ hb w.heap.size); (try have hz1 := lt_ hb (w.heap.size + 1)); (try have hz2 := lt_ hb (w.heap.size + 2)); (try have hz3 := lt_ hb (w.heap.size + 3)); (try have hcA := fun o => hc w.heap.size o sz_); (try have hcB := fun o => hc (w.heap.size + 1) o sz_); (try (have i := cf_ hb g; obtain ⟨hcGg, hfGg, hzGg⟩ := i))))
              refine bodyPost_ret (v := (.tuple #[(Value.agg #[(Value.string ⟨#[]⟩), (Value.string ⟨#[]⟩), (Value.bool false), (Value.int .u32 0), (Value.int .i64 0), (Value.string ⟨#[]⟩), (Value.bool false), (Value.string ⟨#[]⟩), (Value.string ⟨#[]⟩)]), .int .i64 30])) (by simp only [results, Tryz.results123]; go_simp) rfl ⟨by rw [ hR2.out] <;> rfl, ?_⟩; (exact bw_)
            · have hf : Hid ((rest.take (k + 1)).any badC = false) := Lib.hid (by rw [List.take_succ_eq_append_getElem hlt, List.any_append, hr.out]; simp [badC]; omega)
              clear hbadd
              go_wp2
              go_round
              case rel => exact ⟨k + 1, by omega, by go_num, rfl, hf⟩
              case measure => simp [intOf]; omega
        · have hf : Hid (rest.any badC = false) := Lib.hid (by rw [← hr.out, List.take_of_length_le (by omega)])
          go_wp2
          go_meet
          exact ⟨rfl, rfl, rfl, rfl, hf, _, rfl, by omega, bw_, bk_, bk_⟩
    case rest =>
      obtain ⟨rfl, rfl, rfl, rfl, hbad, g, rfl, hg, hw, hB1, hB2⟩ := hcut
      have hs0 := hB1.lt
      have hs1 := hB2.lt
      have hc1 := hB1.cell
      have hc2 := hB2.cell
      have hz1 := hB1.frozen
      have hz2 := hB2.frozen
      have hR2 := hR.out.trans (core2_net Gl.netText [104, 116, 116, 112, 115] rest hbad.out (Or.inr rfl))
      have hweb : Hid (∀ W, Calls Tryz.prog 148 #[(Value.agg #[(Value.string ⟨([104, 116, 116, 112, 115]).toArray⟩), (Value.string ⟨#[]⟩), (Value.bool false), (Value.int .u32 0), (Value.int .i64 (-1)), (Value.string ⟨#[]⟩), (Value.bool false), (Value.string ⟨#[]⟩), (Value.string ⟨(([] : List UInt8)).toArray⟩)]), (Value.string ⟨(rest).toArray⟩)] W (Ret W (.tuple #[(Value.agg #[(Value.string ⟨((R.1).scheme).toArray⟩), (Value.string ⟨(((R.1).host).name).toArray⟩), (Value.bool ((R.1).host).v4), (Value.int .u32 (((R.1).host).addr : Int)), (Value.int .i64 (R.1).port), (Value.string ⟨((R.1).path).toArray⟩), (Value.bool (R.1).hasQuery), (Value.string ⟨((R.1).query).toArray⟩), (Value.string ⟨((R.1).rest).toArray⟩)]), .int .i64 R.2]))) := Lib.hid (fun W => by
        rw [hR2]
        exact ref3_web { scheme := [104, 116, 116, 112, 115], port := -1 } rest W (by omega) rfl rfl)
      replace hR2 := Lib.hid hR2
      go_wp2_with (first | (go_at_call 148; refine (hweb.out _).mono ?_; rintro e w1 ⟨rfl, hb⟩; obtain ⟨hc, hfz⟩ := bcell hb; have hz := hb.size; (try simp at hz); (try have hz0 := lt_ hb w.heap.size); (try have hz1 := lt_ hb (w.heap.size + 1)); (try have hz2 := lt_ hb (w.heap.size + 2)); (try have hz3 := lt_ hb (w.heap.size + 3)); (try have hcA := fun o => hc w.heap.size o sz_); (try have hcB := fun o => hc (w.heap.size + 1) o sz_); (try (have i := cf_ hb g; obtain ⟨hcGg, hfGg, hzGg⟩ := i))))
      refine bodyPost_ret (v := .tuple #[(Value.agg #[(Value.string ⟨((R.1).scheme).toArray⟩), (Value.string ⟨(((R.1).host).name).toArray⟩), (Value.bool ((R.1).host).v4), (Value.int .u32 (((R.1).host).addr : Int)), (Value.int .i64 (R.1).port), (Value.string ⟨((R.1).path).toArray⟩), (Value.bool (R.1).hasQuery), (Value.string ⟨((R.1).query).toArray⟩), (Value.string ⟨((R.1).rest).toArray⟩)]), .int .i64 R.2]) (by simp only [results, Tryz.results123]; go_simp) rfl ⟨rfl, ?_⟩
      (exact bw_)
  · clear hkn
    simp only [Gl.about] at *
    go_enter Tryz.func123, Tryz.ntmps123
    go_upto_block 0 with (first | (go_at_call 144; refine ( htrim _).mono ?_; rintro e w1 ⟨rfl, rfl⟩) | ((first | (go_at_call 146; refine (hcut1 _).mono ?_) | (go_at_call 141; refine (hlow _).mono ?_) | (go_at_call 146; refine (hcut2 _).mono ?_)); rintro e w1 ⟨rfl, hb⟩; obtain ⟨hc, hfz⟩ := bcell hb; have hz := hb.size; (try simp at hz); (try have hz0 := lt_ hb w.heap.size); (try have hz1 := lt_ hb (w.heap.size + 1)); (try have hz2 := lt_ hb (w.heap.size + 2)); (try have hz3 := lt_ hb (w.heap.size + 3)); (try have hcA := fun o => hc w.heap.size o sz_); (try have hcB := fun o => hc (w.heap.size + 1) o sz_); (try (have i := cf_ hb g; obtain ⟨hcGg, hfGg, hzGg⟩ := i))) | (go_at_call 147; refine ( hsch _).mono ?_; rintro e w1 ⟨rfl, rfl⟩))
    go_cut [2, 3, 5, 6, 8] (fun p2 z rs p6 nt w' => p2 = .pointer (some ⟨w.heap.size, 0, none⟩) ∧ z = .int .i64 0 ∧ rs = (Value.string ⟨(rest).toArray⟩) ∧ nt = .bool false ∧ Hid (rest.any badC = false) ∧ ∃ g, p6 = .pointer (some ⟨g, 0, none⟩) ∧ w.heap.size < g ∧ Below w.heap.size w w' ∧ Blk w' w.heap.size 28 #[(Value.string ⟨#[]⟩), (Value.string ⟨#[]⟩), (Value.bool false), (Value.int .u32 0), (Value.int .i64 0), (Value.string ⟨#[]⟩), (Value.bool false), (Value.string ⟨#[]⟩), (Value.string ⟨#[]⟩)] ∧ Blk w' g 28 #[(Value.string ⟨([97, 98, 111, 117, 116]).toArray⟩), (Value.string ⟨#[]⟩), (Value.bool false), (Value.int .u32 0), (Value.int .i64 (-1)), (Value.string ⟨#[]⟩), (Value.bool false), (Value.string ⟨#[]⟩), (Value.string ⟨#[]⟩)])
    case first =>
      go_wp2
      go_loop [3, 9] (fun z i => ∃ k : Nat, k ≤ rest.length ∧ i = .int .i64 k ∧ z = .int .i64 0 ∧ Hid ((rest.take k).any badC = false)) (fun _ i => rest.length - (intOf i).toNat)
      case atStart => exact ⟨0, by omega, rfl, rfl, Lib.hid rfl⟩
      case round =>
        obtain ⟨k, hk, rfl, rfl, hr⟩ := hrel
        by_cases hlt : k < rest.length
        · have hbadd : badC rest[k] = true → Hid (R = ({}, 30)) := fun hb => Lib.hid (by
            rw [hR.out, core2_bad]
            exact List.any_eq_true.2 ⟨rest[k], List.getElem_mem hlt, hb⟩)
          by_cases h1 : rest[k].toNat < 33
          · have hR2 := hbadd (by simp [badC, h1])
            clear hbadd
            go_wp2_with (first | (go_at_call 145; refine (ref3_fails 30 _).mono ?_; rintro e w1 ⟨rfl, hb⟩; obtain ⟨hc, hfz⟩ := bcell hb; have hz := hb.size; (try simp at hz); (try have hz0 := lt_ hb w.heap.size); (try have hz1 := lt_ hb (w.heap.size + 1)); (try have hz2 := lt_ hb (w.heap.size + 2)); (try have hz3 := lt_ hb (w.heap.size + 3)); (try have hcA := fun o => hc w.heap.size o sz_); (try have hcB := fun o => hc (w.heap.size + 1) o sz_); (try (have i := cf_ hb g; obtain ⟨hcGg, hfGg, hzGg⟩ := i))))
            refine bodyPost_ret (v := (.tuple #[(Value.agg #[(Value.string ⟨#[]⟩), (Value.string ⟨#[]⟩), (Value.bool false), (Value.int .u32 0), (Value.int .i64 0), (Value.string ⟨#[]⟩), (Value.bool false), (Value.string ⟨#[]⟩), (Value.string ⟨#[]⟩)]), .int .i64 30])) (by simp only [results, Tryz.results123]; go_simp) rfl ⟨by rw [ hR2.out] <;> rfl, ?_⟩; (exact bw_)
          · by_cases h2 : 126 < rest[k].toNat
            · have hR2 := hbadd (by simp [badC, h2])
              clear hbadd
              go_wp2_with (first | (go_at_call 145; refine (ref3_fails 30 _).mono ?_; rintro e w1 ⟨rfl, hb⟩; obtain ⟨hc, hfz⟩ := bcell hb; have hz := hb.size; (try simp at hz); (try have hz0 := lt_ hb w.heap.size); (try have hz1 := lt_ hb (w.heap.size + 1)); (try have hz2 := lt_ hb (w.heap.size + 2)); (try have hz3 := lt_ hb (w.heap.size + 3)); (try have hcA := fun o => hc w.heap.size o sz_); (try have hcB := fun o => hc (w.heap.size + 1) o sz_); (try (have i := cf_ hb g; obtain ⟨hcGg, hfGg, hzGg⟩ := i))))
              refine bodyPost_ret (v := (.tuple #[(Value.agg #[(Value.string ⟨#[]⟩), (Value.string ⟨#[]⟩), (Value.bool false), (Value.int .u32 0), (Value.int .i64 0), (Value.string ⟨#[]⟩), (Value.bool false), (Value.string ⟨#[]⟩), (Value.string ⟨#[]⟩)]), .int .i64 30])) (by simp only [results, Tryz.results123]; go_simp) rfl ⟨by rw [ hR2.out] <;> rfl, ?_⟩; (exact bw_)
            · have hf : Hid ((rest.take (k + 1)).any badC = false) := Lib.hid (by rw [List.take_succ_eq_append_getElem hlt, List.any_append, hr.out]; simp [badC]; omega)
              clear hbadd
              go_wp2
              go_round
              case rel => exact ⟨k + 1, by omega, by go_num, rfl, hf⟩
              case measure => simp [intOf]; omega
        · have hf : Hid (rest.any badC = false) := Lib.hid (by rw [← hr.out, List.take_of_length_le (by omega)])
          go_wp2
          go_meet
          exact ⟨rfl, rfl, rfl, rfl, hf, _, rfl, by omega, bw_, bk_, bk_⟩
    case rest =>
      obtain ⟨rfl, rfl, rfl, rfl, hbad, g, rfl, hg, hw, hB1, hB2⟩ := hcut
      have hs0 := hB1.lt
      have hs1 := hB2.lt
      have hc1 := hB1.cell
      have hc2 := hB2.cell
      have hz1 := hB1.frozen
      have hz2 := hB2.frozen
      have hR2 := hR.out.trans (core2_about Gl.netText rest hbad.out)
      by_cases e1 : rest = Gl.bblank
      · rw [if_neg (fun h => h.1 e1)] at hR2
        unfold Gl.about at hR2
        unfold Gl.bblank at e1
        have hb1 : (rest == ([98, 108, 97, 110, 107] : List UInt8)) = true := by rw [e1]; rfl
        have hb2 : (rest == ([115, 114, 99, 100, 111, 99] : List UInt8)) = false := by rw [e1]; rfl
        replace e1 := Lib.hid e1
        replace hR2 := Lib.hid hR2
        go_wp2_with (first | fail)
        refine bodyPost_ret (v := (.tuple #[(Value.agg #[(Value.string ⟨([97, 98, 111, 117, 116]).toArray⟩), (Value.string ⟨#[]⟩), (Value.bool false), (Value.int .u32 0), (Value.int .i64 (-1)), (Value.string ⟨#[]⟩), (Value.bool false), (Value.string ⟨#[]⟩), (Value.string ⟨(rest).toArray⟩)]), .int .i64 0])) (by simp only [results, Tryz.results123]; go_simp) rfl ⟨by rw [ hR2.out] <;> rfl, ?_⟩; (exact bw_)
      · by_cases e2 : rest = Gl.srcdoc
        · rw [if_neg (fun h => h.2 e2)] at hR2
          unfold Gl.about at hR2
          unfold Gl.srcdoc at e2
          have hb1 : (rest == ([98, 108, 97, 110, 107] : List UInt8)) = false := by rw [e2]; rfl
          have hb2 : (rest == ([115, 114, 99, 100, 111, 99] : List UInt8)) = true := by rw [e2]; rfl
          replace e1 := Lib.hid e1
          replace e2 := Lib.hid e2
          replace hR2 := Lib.hid hR2
          go_wp2_with (first | fail)
          refine bodyPost_ret (v := (.tuple #[(Value.agg #[(Value.string ⟨([97, 98, 111, 117, 116]).toArray⟩), (Value.string ⟨#[]⟩), (Value.bool false), (Value.int .u32 0), (Value.int .i64 (-1)), (Value.string ⟨#[]⟩), (Value.bool false), (Value.string ⟨#[]⟩), (Value.string ⟨(rest).toArray⟩)]), .int .i64 0])) (by simp only [results, Tryz.results123]; go_simp) rfl ⟨by rw [ hR2.out] <;> rfl, ?_⟩; (exact bw_)
        · rw [if_pos ⟨e1, e2⟩] at hR2
          unfold Gl.bblank at e1
          unfold Gl.srcdoc at e2
          have hb1 : (rest == ([98, 108, 97, 110, 107] : List UInt8)) = false := by rw [beq_eq_false_iff_ne]; exact e1
          have hb2 : (rest == ([115, 114, 99, 100, 111, 99] : List UInt8)) = false := by rw [beq_eq_false_iff_ne]; exact e2
          replace e1 := Lib.hid e1
          replace e2 := Lib.hid e2
          replace hR2 := Lib.hid hR2
          go_wp2_with (first | (go_at_call 145; refine (ref3_fails 30 _).mono ?_; rintro e w1 ⟨rfl, hb⟩; obtain ⟨hc, hfz⟩ := bcell hb; have hz := hb.size; (try simp at hz); (try have hz0 := lt_ hb w.heap.size); (try have hz1 := lt_ hb (w.heap.size + 1)); (try have hz2 := lt_ hb (w.heap.size + 2)); (try have hz3 := lt_ hb (w.heap.size + 3)); (try have hcA := fun o => hc w.heap.size o sz_); (try have hcB := fun o => hc (w.heap.size + 1) o sz_); (try (have i := cf_ hb g; obtain ⟨hcGg, hfGg, hzGg⟩ := i))))
          refine bodyPost_ret (v := (.tuple #[(Value.agg #[(Value.string ⟨#[]⟩), (Value.string ⟨#[]⟩), (Value.bool false), (Value.int .u32 0), (Value.int .i64 0), (Value.string ⟨#[]⟩), (Value.bool false), (Value.string ⟨#[]⟩), (Value.string ⟨#[]⟩)]), .int .i64 30])) (by simp only [results, Tryz.results123]; go_simp) rfl ⟨by rw [ hR2.out] <;> rfl, ?_⟩; (exact bw_)
  · clear hkn
    simp only [Gl.data] at *
    go_enter Tryz.func123, Tryz.ntmps123
    go_upto_block 0 with (first | (go_at_call 144; refine ( htrim _).mono ?_; rintro e w1 ⟨rfl, rfl⟩) | ((first | (go_at_call 146; refine (hcut1 _).mono ?_) | (go_at_call 141; refine (hlow _).mono ?_) | (go_at_call 146; refine (hcut2 _).mono ?_)); rintro e w1 ⟨rfl, hb⟩; obtain ⟨hc, hfz⟩ := bcell hb; have hz := hb.size; (try simp at hz); (try have hz0 := lt_ hb w.heap.size); (try have hz1 := lt_ hb (w.heap.size + 1)); (try have hz2 := lt_ hb (w.heap.size + 2)); (try have hz3 := lt_ hb (w.heap.size + 3)); (try have hcA := fun o => hc w.heap.size o sz_); (try have hcB := fun o => hc (w.heap.size + 1) o sz_); (try (have i := cf_ hb g; obtain ⟨hcGg, hfGg, hzGg⟩ := i))) | (go_at_call 147; refine ( hsch _).mono ?_; rintro e w1 ⟨rfl, rfl⟩))
    go_cut [2, 3, 5, 6, 8] (fun p2 z rs p6 nt w' => p2 = .pointer (some ⟨w.heap.size, 0, none⟩) ∧ z = .int .i64 0 ∧ rs = (Value.string ⟨(rest).toArray⟩) ∧ nt = .bool false ∧ Hid (rest.any badC = false) ∧ ∃ g, p6 = .pointer (some ⟨g, 0, none⟩) ∧ w.heap.size < g ∧ Below w.heap.size w w' ∧ Blk w' w.heap.size 28 #[(Value.string ⟨#[]⟩), (Value.string ⟨#[]⟩), (Value.bool false), (Value.int .u32 0), (Value.int .i64 0), (Value.string ⟨#[]⟩), (Value.bool false), (Value.string ⟨#[]⟩), (Value.string ⟨#[]⟩)] ∧ Blk w' g 28 #[(Value.string ⟨([100, 97, 116, 97]).toArray⟩), (Value.string ⟨#[]⟩), (Value.bool false), (Value.int .u32 0), (Value.int .i64 (-1)), (Value.string ⟨#[]⟩), (Value.bool false), (Value.string ⟨#[]⟩), (Value.string ⟨#[]⟩)])
    case first =>
      go_wp2
      go_loop [3, 9] (fun z i => ∃ k : Nat, k ≤ rest.length ∧ i = .int .i64 k ∧ z = .int .i64 0 ∧ Hid ((rest.take k).any badC = false)) (fun _ i => rest.length - (intOf i).toNat)
      case atStart => exact ⟨0, by omega, rfl, rfl, Lib.hid rfl⟩
      case round =>
        obtain ⟨k, hk, rfl, rfl, hr⟩ := hrel
        by_cases hlt : k < rest.length
        · have hbadd : badC rest[k] = true → Hid (R = ({}, 30)) := fun hb => Lib.hid (by
            rw [hR.out, core2_bad]
            exact List.any_eq_true.2 ⟨rest[k], List.getElem_mem hlt, hb⟩)
          by_cases h1 : rest[k].toNat < 33
          · have hR2 := hbadd (by simp [badC, h1])
            clear hbadd
            go_wp2_with (first | (go_at_call 145; refine (ref3_fails 30 _).mono ?_; rintro e w1 ⟨rfl, hb⟩; obtain ⟨hc, hfz⟩ := bcell hb; have hz := hb.size; (try simp at hz); (try have hz0 := lt_ hb w.heap.size); (try have hz1 := lt_ hb (w.heap.size + 1)); (try have hz2 := lt_ hb (w.heap.size + 2)); (try have hz3 := lt_ hb (w.heap.size + 3)); (try have hcA := fun o => hc w.heap.size o sz_); (try have hcB := fun o => hc (w.heap.size + 1) o sz_); (try (have i := cf_ hb g; obtain ⟨hcGg, hfGg, hzGg⟩ := i))))
            refine bodyPost_ret (v := (.tuple #[(Value.agg #[(Value.string ⟨#[]⟩), (Value.string ⟨#[]⟩), (Value.bool false), (Value.int .u32 0), (Value.int .i64 0), (Value.string ⟨#[]⟩), (Value.bool false), (Value.string ⟨#[]⟩), (Value.string ⟨#[]⟩)]), .int .i64 30])) (by simp only [results, Tryz.results123]; go_simp) rfl ⟨by rw [ hR2.out] <;> rfl, ?_⟩; (exact bw_)
          · by_cases h2 : 126 < rest[k].toNat
            · have hR2 := hbadd (by simp [badC, h2])
              clear hbadd
              go_wp2_with (first | (go_at_call 145; refine (ref3_fails 30 _).mono ?_; rintro e w1 ⟨rfl, hb⟩; obtain ⟨hc, hfz⟩ := bcell hb; have hz := hb.size; (try simp at hz); (try have hz0 := lt_ hb w.heap.size); (try have hz1 := lt_ hb (w.heap.size + 1)); (try have hz2 := lt_ hb (w.heap.size + 2)); (try have hz3 := lt_ hb (w.heap.size + 3)); (try have hcA := fun o => hc w.heap.size o sz_); (try have hcB := fun o => hc (w.heap.size + 1) o sz_); (try (have i := cf_ hb g; obtain ⟨hcGg, hfGg, hzGg⟩ := i))))
              refine bodyPost_ret (v := (.tuple #[(Value.agg #[(Value.string ⟨#[]⟩), (Value.string ⟨#[]⟩), (Value.bool false), (Value.int .u32 0), (Value.int .i64 0), (Value.string ⟨#[]⟩), (Value.bool false), (Value.string ⟨#[]⟩), (Value.string ⟨#[]⟩)]), .int .i64 30])) (by simp only [results, Tryz.results123]; go_simp) rfl ⟨by rw [ hR2.out] <;> rfl, ?_⟩; (exact bw_)
            · have hf : Hid ((rest.take (k + 1)).any badC = false) := Lib.hid (by rw [List.take_succ_eq_append_getElem hlt, List.any_append, hr.out]; simp [badC]; omega)
              clear hbadd
              go_wp2
              go_round
              case rel => exact ⟨k + 1, by omega, by go_num, rfl, hf⟩
              case measure => simp [intOf]; omega
        · have hf : Hid (rest.any badC = false) := Lib.hid (by rw [← hr.out, List.take_of_length_le (by omega)])
          go_wp2
          go_meet
          exact ⟨rfl, rfl, rfl, rfl, hf, _, rfl, by omega, bw_, bk_, bk_⟩
    case rest =>
      obtain ⟨rfl, rfl, rfl, rfl, hbad, g, rfl, hg, hw, hB1, hB2⟩ := hcut
      have hs0 := hB1.lt
      have hs1 := hB2.lt
      have hc1 := hB1.cell
      have hc2 := hB2.cell
      have hz1 := hB1.frozen
      have hz2 := hB2.frozen
      have hR2 := Lib.hid (hR.out.trans (core2_data Gl.netText rest hbad.out))
      unfold Gl.data at hR2
      go_wp2_with (first | fail)
      refine bodyPost_ret (v := (.tuple #[(Value.agg #[(Value.string ⟨([100, 97, 116, 97]).toArray⟩), (Value.string ⟨#[]⟩), (Value.bool false), (Value.int .u32 0), (Value.int .i64 (-1)), (Value.string ⟨#[]⟩), (Value.bool false), (Value.string ⟨#[]⟩), (Value.string ⟨(rest).toArray⟩)]), .int .i64 0])) (by simp only [results, Tryz.results123]; go_simp) rfl ⟨by rw [ hR2.out] <;> rfl, ?_⟩; (exact bw_)
  · clear hkn
    simp only [Gl.blob] at *
    go_enter Tryz.func123, Tryz.ntmps123
    go_upto_block 0 with (first | (go_at_call 144; refine ( htrim _).mono ?_; rintro e w1 ⟨rfl, rfl⟩) | ((first | (go_at_call 146; refine (hcut1 _).mono ?_) | (go_at_call 141; refine (hlow _).mono ?_) | (go_at_call 146; refine (hcut2 _).mono ?_)); rintro e w1 ⟨rfl, hb⟩; obtain ⟨hc, hfz⟩ := bcell hb; have hz := hb.size; (try simp at hz); (try have hz0 := lt_ hb w.heap.size); (try have hz1 := lt_ hb (w.heap.size + 1)); (try have hz2 := lt_ hb (w.heap.size + 2)); (try have hz3 := lt_ hb (w.heap.size + 3)); (try have hcA := fun o => hc w.heap.size o sz_); (try have hcB := fun o => hc (w.heap.size + 1) o sz_); (try (have i := cf_ hb g; obtain ⟨hcGg, hfGg, hzGg⟩ := i))) | (go_at_call 147; refine ( hsch _).mono ?_; rintro e w1 ⟨rfl, rfl⟩))
    go_cut [2, 3, 5, 6, 8] (fun p2 z rs p6 nt w' => p2 = .pointer (some ⟨w.heap.size, 0, none⟩) ∧ z = .int .i64 0 ∧ rs = (Value.string ⟨(rest).toArray⟩) ∧ nt = .bool false ∧ Hid (rest.any badC = false) ∧ ∃ g, p6 = .pointer (some ⟨g, 0, none⟩) ∧ w.heap.size < g ∧ Below w.heap.size w w' ∧ Blk w' w.heap.size 28 #[(Value.string ⟨#[]⟩), (Value.string ⟨#[]⟩), (Value.bool false), (Value.int .u32 0), (Value.int .i64 0), (Value.string ⟨#[]⟩), (Value.bool false), (Value.string ⟨#[]⟩), (Value.string ⟨#[]⟩)] ∧ Blk w' g 28 #[(Value.string ⟨([98, 108, 111, 98]).toArray⟩), (Value.string ⟨#[]⟩), (Value.bool false), (Value.int .u32 0), (Value.int .i64 (-1)), (Value.string ⟨#[]⟩), (Value.bool false), (Value.string ⟨#[]⟩), (Value.string ⟨#[]⟩)])
    case first =>
      go_wp2
      go_loop [3, 9] (fun z i => ∃ k : Nat, k ≤ rest.length ∧ i = .int .i64 k ∧ z = .int .i64 0 ∧ Hid ((rest.take k).any badC = false)) (fun _ i => rest.length - (intOf i).toNat)
      case atStart => exact ⟨0, by omega, rfl, rfl, Lib.hid rfl⟩
      case round =>
        obtain ⟨k, hk, rfl, rfl, hr⟩ := hrel
        by_cases hlt : k < rest.length
        · have hbadd : badC rest[k] = true → Hid (R = ({}, 30)) := fun hb => Lib.hid (by
            rw [hR.out, core2_bad]
            exact List.any_eq_true.2 ⟨rest[k], List.getElem_mem hlt, hb⟩)
          by_cases h1 : rest[k].toNat < 33
          · have hR2 := hbadd (by simp [badC, h1])
            clear hbadd
            go_wp2_with (first | (go_at_call 145; refine (ref3_fails 30 _).mono ?_; rintro e w1 ⟨rfl, hb⟩; obtain ⟨hc, hfz⟩ := bcell hb; have hz := hb.size; (try simp at hz); (try have hz0 := lt_ hb w.heap.size); (try have hz1 := lt_ hb (w.heap.size + 1)); (try have hz2 := lt_ hb (w.heap.size + 2)); (try have hz3 := lt_ hb (w.heap.size + 3)); (try have hcA := fun o => hc w.heap.size o sz_); (try have hcB := fun o => hc (w.heap.size + 1) o sz_); (try (have i := cf_ hb g; obtain ⟨hcGg, hfGg, hzGg⟩ := i))))
            refine bodyPost_ret (v := (.tuple #[(Value.agg #[(Value.string ⟨#[]⟩), (Value.string ⟨#[]⟩), (Value.bool false), (Value.int .u32 0), (Value.int .i64 0), (Value.string ⟨#[]⟩), (Value.bool false), (Value.string ⟨#[]⟩), (Value.string ⟨#[]⟩)]), .int .i64 30])) (by simp only [results, Tryz.results123]; go_simp) rfl ⟨by rw [ hR2.out] <;> rfl, ?_⟩; (exact bw_)
          · by_cases h2 : 126 < rest[k].toNat
            · have hR2 := hbadd (by simp [badC, h2])
              clear hbadd
              go_wp2_with (first | (go_at_call 145; refine (ref3_fails 30 _).mono ?_; rintro e w1 ⟨rfl, hb⟩; obtain ⟨hc, hfz⟩ := bcell hb; have hz := hb.size; (try simp at hz); (try have hz0 := lt_ hb w.heap.size); (try have hz1 := lt_ hb (w.heap.size + 1)); (try have hz2 := lt_ hb (w.heap.size + 2)); (try have hz3 := lt_ hb (w.heap.size + 3)); (try have hcA := fun o => hc w.heap.size o sz_); (try have hcB := fun o => hc (w.heap.size + 1) o sz_); (try (have i := cf_ hb g; obtain ⟨hcGg, hfGg, hzGg⟩ := i))))
              refine bodyPost_ret (v := (.tuple #[(Value.agg #[(Value.string ⟨#[]⟩), (Value.string ⟨#[]⟩), (Value.bool false), (Value.int .u32 0), (Value.int .i64 0), (Value.string ⟨#[]⟩), (Value.bool false), (Value.string ⟨#[]⟩), (Value.string ⟨#[]⟩)]), .int .i64 30])) (by simp only [results, Tryz.results123]; go_simp) rfl ⟨by rw [ hR2.out] <;> rfl, ?_⟩; (exact bw_)
            · have hf : Hid ((rest.take (k + 1)).any badC = false) := Lib.hid (by rw [List.take_succ_eq_append_getElem hlt, List.any_append, hr.out]; simp [badC]; omega)
              clear hbadd
              go_wp2
              go_round
              case rel => exact ⟨k + 1, by omega, by go_num, rfl, hf⟩
              case measure => simp [intOf]; omega
        · have hf : Hid (rest.any badC = false) := Lib.hid (by rw [← hr.out, List.take_of_length_le (by omega)])
          go_wp2
          go_meet
          exact ⟨rfl, rfl, rfl, rfl, hf, _, rfl, by omega, bw_, bk_, bk_⟩
    case rest =>
      obtain ⟨rfl, rfl, rfl, rfl, hbad, g, rfl, hg, hw, hB1, hB2⟩ := hcut
      have hs0 := hB1.lt
      have hs1 := hB2.lt
      have hc1 := hB1.cell
      have hc2 := hB2.cell
      have hz1 := hB1.frozen
      have hz2 := hB2.frozen
      have hR2 := hR.out.trans (core2_blob Gl.netText rest hbad.out)
      have hih := fun W => ih rest W (by omega) (by omega)
      have hnull := fun W => ref3_begins rest [110, 117, 108, 108, 47] W
      rw [net_parse rest] at hR2
      unfold Gl.nullS Gl.blob at hR2
      generalize Gl.parse rest = ip at *
      obtain ⟨iu, ie⟩ := ip
      have hnet := fun W => ref3_net iu W
      simp only at hR2 hih
      replace hih := Lib.hid hih
      clear ih
      cases hnu : ([110, 117, 108, 108, 47] : List UInt8).isPrefixOf rest with
      | true =>
        rw [hnu] at hR2 hnull
        replace hnull := Lib.hid hnull
        replace hnu := Lib.hid hnu
        by_cases hie : ie = 0
        · have hie1 : (ie != 0) = false := by rw [hie]; rfl
          have hie2 : (ie == 0) = true := by rw [hie]; rfl
          rw [hie2] at hR2
          replace hie := Lib.hid hie
          clear hie2
          cases hin : Gl.isNet iu with
          | true =>
            rw [hin] at hR2 hnet
            replace hnet := Lib.hid hnet
            replace hin := Lib.hid hin
            replace hR2 : Hid (R = ({ scheme := [98, 108, 111, 98], port := -1, rest := rest }, 0)) := Lib.hid hR2
            go_wp2_with (first | (go_at_call 149; refine ( hnull.out _).mono ?_; rintro e w1 ⟨rfl, rfl⟩) | ((first | (go_at_call 123; refine (hih.out _).mono ?_) | (go_at_call 65; refine (hnet.out _).mono ?_) | (go_at_call 145; refine (ref3_fails 30 _).mono ?_)); rintro e w1 ⟨rfl, hb⟩; obtain ⟨hc, hfz⟩ := bcell hb; have hz := hb.size; (try simp at hz); (try have hz0 := lt_ hb w.heap.size); (try have hz1 := lt_ hb (w.heap.size + 1)); (try have hz2 := lt_ hb (w.heap.size + 2)); (try have hz3 := lt_ hb (w.heap.size + 3)); (try have hcA := fun o => hc w.heap.size o sz_); (try have hcB := fun o => hc (w.heap.size + 1) o sz_); (try (have i := cf_ hb g; obtain ⟨hcGg, hfGg, hzGg⟩ := i))))
            refine bodyPost_ret (v := (.tuple #[(Value.agg #[(Value.string ⟨([98, 108, 111, 98]).toArray⟩), (Value.string ⟨#[]⟩), (Value.bool false), (Value.int .u32 0), (Value.int .i64 (-1)), (Value.string ⟨#[]⟩), (Value.bool false), (Value.string ⟨#[]⟩), (Value.string ⟨(rest).toArray⟩)]), .int .i64 0])) (by simp only [results, Tryz.results123]; go_simp) rfl ⟨by rw [ hR2.out] <;> rfl, ?_⟩; (exact bw_)
          | false =>
            rw [hin] at hR2 hnet
            replace hnet := Lib.hid hnet
            replace hin := Lib.hid hin
            replace hR2 : Hid (R = ({ scheme := [98, 108, 111, 98], port := -1, rest := rest }, 0)) := Lib.hid hR2
            go_wp2_with (first | (go_at_call 149; refine ( hnull.out _).mono ?_; rintro e w1 ⟨rfl, rfl⟩) | ((first | (go_at_call 123; refine (hih.out _).mono ?_) | (go_at_call 65; refine (hnet.out _).mono ?_) | (go_at_call 145; refine (ref3_fails 30 _).mono ?_)); rintro e w1 ⟨rfl, hb⟩; obtain ⟨hc, hfz⟩ := bcell hb; have hz := hb.size; (try simp at hz); (try have hz0 := lt_ hb w.heap.size); (try have hz1 := lt_ hb (w.heap.size + 1)); (try have hz2 := lt_ hb (w.heap.size + 2)); (try have hz3 := lt_ hb (w.heap.size + 3)); (try have hcA := fun o => hc w.heap.size o sz_); (try have hcB := fun o => hc (w.heap.size + 1) o sz_); (try (have i := cf_ hb g; obtain ⟨hcGg, hfGg, hzGg⟩ := i))))
            refine bodyPost_ret (v := (.tuple #[(Value.agg #[(Value.string ⟨([98, 108, 111, 98]).toArray⟩), (Value.string ⟨#[]⟩), (Value.bool false), (Value.int .u32 0), (Value.int .i64 (-1)), (Value.string ⟨#[]⟩), (Value.bool false), (Value.string ⟨#[]⟩), (Value.string ⟨(rest).toArray⟩)]), .int .i64 0])) (by simp only [results, Tryz.results123]; go_simp) rfl ⟨by rw [ hR2.out] <;> rfl, ?_⟩; (exact bw_)
        · have hie1 : (ie != 0) = true := by rw [bne_iff_ne]; exact hie
          have hie2 : (ie == 0) = false := by rw [beq_eq_false_iff_ne]; exact hie
          rw [hie2] at hR2
          replace hie := Lib.hid hie
          clear hie2
          replace hR2 : Hid (R = ({ scheme := [98, 108, 111, 98], port := -1, rest := rest }, 0)) := Lib.hid hR2
          cases hin : Gl.isNet iu with
          | true =>
            rw [hin] at hnet
            replace hnet := Lib.hid hnet
            replace hin := Lib.hid hin
            go_wp2_with (first | (go_at_call 149; refine ( hnull.out _).mono ?_; rintro e w1 ⟨rfl, rfl⟩) | ((first | (go_at_call 123; refine (hih.out _).mono ?_) | (go_at_call 65; refine (hnet.out _).mono ?_) | (go_at_call 145; refine (ref3_fails 30 _).mono ?_)); rintro e w1 ⟨rfl, hb⟩; obtain ⟨hc, hfz⟩ := bcell hb; have hz := hb.size; (try simp at hz); (try have hz0 := lt_ hb w.heap.size); (try have hz1 := lt_ hb (w.heap.size + 1)); (try have hz2 := lt_ hb (w.heap.size + 2)); (try have hz3 := lt_ hb (w.heap.size + 3)); (try have hcA := fun o => hc w.heap.size o sz_); (try have hcB := fun o => hc (w.heap.size + 1) o sz_); (try (have i := cf_ hb g; obtain ⟨hcGg, hfGg, hzGg⟩ := i))))
            refine bodyPost_ret (v := (.tuple #[(Value.agg #[(Value.string ⟨([98, 108, 111, 98]).toArray⟩), (Value.string ⟨#[]⟩), (Value.bool false), (Value.int .u32 0), (Value.int .i64 (-1)), (Value.string ⟨#[]⟩), (Value.bool false), (Value.string ⟨#[]⟩), (Value.string ⟨(rest).toArray⟩)]), .int .i64 0])) (by simp only [results, Tryz.results123]; go_simp) rfl ⟨by rw [ hR2.out] <;> rfl, ?_⟩; (exact bw_)
          | false =>
            rw [hin] at hnet
            replace hnet := Lib.hid hnet
            replace hin := Lib.hid hin
            go_wp2_with (first | (go_at_call 149; refine ( hnull.out _).mono ?_; rintro e w1 ⟨rfl, rfl⟩) | ((first | (go_at_call 123; refine (hih.out _).mono ?_) | (go_at_call 65; refine (hnet.out _).mono ?_) | (go_at_call 145; refine (ref3_fails 30 _).mono ?_)); rintro e w1 ⟨rfl, hb⟩; obtain ⟨hc, hfz⟩ := bcell hb; have hz := hb.size; (try simp at hz); (try have hz0 := lt_ hb w.heap.size); (try have hz1 := lt_ hb (w.heap.size + 1)); (try have hz2 := lt_ hb (w.heap.size + 2)); (try have hz3 := lt_ hb (w.heap.size + 3)); (try have hcA := fun o => hc w.heap.size o sz_); (try have hcB := fun o => hc (w.heap.size + 1) o sz_); (try (have i := cf_ hb g; obtain ⟨hcGg, hfGg, hzGg⟩ := i))))
            refine bodyPost_ret (v := (.tuple #[(Value.agg #[(Value.string ⟨([98, 108, 111, 98]).toArray⟩), (Value.string ⟨#[]⟩), (Value.bool false), (Value.int .u32 0), (Value.int .i64 (-1)), (Value.string ⟨#[]⟩), (Value.bool false), (Value.string ⟨#[]⟩), (Value.string ⟨(rest).toArray⟩)]), .int .i64 0])) (by simp only [results, Tryz.results123]; go_simp) rfl ⟨by rw [ hR2.out] <;> rfl, ?_⟩; (exact bw_)
      | false =>
        rw [hnu] at hR2 hnull
        replace hnull := Lib.hid hnull
        replace hnu := Lib.hid hnu
        by_cases hie : ie = 0
        · have hie1 : (ie != 0) = false := by rw [hie]; rfl
          have hie2 : (ie == 0) = true := by rw [hie]; rfl
          rw [hie2] at hR2
          replace hie := Lib.hid hie
          clear hie2
          cases hin : Gl.isNet iu with
          | true =>
            rw [hin] at hR2 hnet
            replace hnet := Lib.hid hnet
            replace hin := Lib.hid hin
            replace hR2 : Hid (R = ({ scheme := [98, 108, 111, 98], port := -1, rest := rest }, 0)) := Lib.hid hR2
            go_wp2_with (first | (go_at_call 149; refine ( hnull.out _).mono ?_; rintro e w1 ⟨rfl, rfl⟩) | ((first | (go_at_call 123; refine (hih.out _).mono ?_) | (go_at_call 65; refine (hnet.out _).mono ?_) | (go_at_call 145; refine (ref3_fails 30 _).mono ?_)); rintro e w1 ⟨rfl, hb⟩; obtain ⟨hc, hfz⟩ := bcell hb; have hz := hb.size; (try simp at hz); (try have hz0 := lt_ hb w.heap.size); (try have hz1 := lt_ hb (w.heap.size + 1)); (try have hz2 := lt_ hb (w.heap.size + 2)); (try have hz3 := lt_ hb (w.heap.size + 3)); (try have hcA := fun o => hc w.heap.size o sz_); (try have hcB := fun o => hc (w.heap.size + 1) o sz_); (try (have i := cf_ hb g; obtain ⟨hcGg, hfGg, hzGg⟩ := i))))
            refine bodyPost_ret (v := (.tuple #[(Value.agg #[(Value.string ⟨([98, 108, 111, 98]).toArray⟩), (Value.string ⟨#[]⟩), (Value.bool false), (Value.int .u32 0), (Value.int .i64 (-1)), (Value.string ⟨#[]⟩), (Value.bool false), (Value.string ⟨#[]⟩), (Value.string ⟨(rest).toArray⟩)]), .int .i64 0])) (by simp only [results, Tryz.results123]; go_simp) rfl ⟨by rw [ hR2.out] <;> rfl, ?_⟩; (exact bw_)
          | false =>
            rw [hin] at hR2 hnet
            replace hnet := Lib.hid hnet
            replace hin := Lib.hid hin
            replace hR2 : Hid (R = ({}, 30)) := Lib.hid hR2
            go_wp2_with (first | (go_at_call 149; refine ( hnull.out _).mono ?_; rintro e w1 ⟨rfl, rfl⟩) | ((first | (go_at_call 123; refine (hih.out _).mono ?_) | (go_at_call 65; refine (hnet.out _).mono ?_) | (go_at_call 145; refine (ref3_fails 30 _).mono ?_)); rintro e w1 ⟨rfl, hb⟩; obtain ⟨hc, hfz⟩ := bcell hb; have hz := hb.size; (try simp at hz); (try have hz0 := lt_ hb w.heap.size); (try have hz1 := lt_ hb (w.heap.size + 1)); (try have hz2 := lt_ hb (w.heap.size + 2)); (try have hz3 := lt_ hb (w.heap.size + 3)); (try have hcA := fun o => hc w.heap.size o sz_); (try have hcB := fun o => hc (w.heap.size + 1) o sz_); (try (have i := cf_ hb g; obtain ⟨hcGg, hfGg, hzGg⟩ := i))))
            refine bodyPost_ret (v := (.tuple #[(Value.agg #[(Value.string ⟨#[]⟩), (Value.string ⟨#[]⟩), (Value.bool false), (Value.int .u32 0), (Value.int .i64 0), (Value.string ⟨#[]⟩), (Value.bool false), (Value.string ⟨#[]⟩), (Value.string ⟨#[]⟩)]), .int .i64 30])) (by simp only [results, Tryz.results123]; go_simp) rfl ⟨by rw [ hR2.out] <;> rfl, ?_⟩; (exact bw_)
        · have hie1 : (ie != 0) = true := by rw [bne_iff_ne]; exact hie
          have hie2 : (ie == 0) = false := by rw [beq_eq_false_iff_ne]; exact hie
          rw [hie2] at hR2
          replace hie := Lib.hid hie
          clear hie2
          replace hR2 : Hid (R = ({}, 30)) := Lib.hid hR2
          cases hin : Gl.isNet iu with
          | true =>
            rw [hin] at hnet
            replace hnet := Lib.hid hnet
            replace hin := Lib.hid hin
            go_wp2_with (first | (go_at_call 149; refine ( hnull.out _).mono ?_; rintro e w1 ⟨rfl, rfl⟩) | ((first | (go_at_call 123; refine (hih.out _).mono ?_) | (go_at_call 65; refine (hnet.out _).mono ?_) | (go_at_call 145; refine (ref3_fails 30 _).mono ?_)); rintro e w1 ⟨rfl, hb⟩; obtain ⟨hc, hfz⟩ := bcell hb; have hz := hb.size; (try simp at hz); (try have hz0 := lt_ hb w.heap.size); (try have hz1 := lt_ hb (w.heap.size + 1)); (try have hz2 := lt_ hb (w.heap.size + 2)); (try have hz3 := lt_ hb (w.heap.size + 3)); (try have hcA := fun o => hc w.heap.size o sz_); (try have hcB := fun o => hc (w.heap.size + 1) o sz_); (try (have i := cf_ hb g; obtain ⟨hcGg, hfGg, hzGg⟩ := i))))
            refine bodyPost_ret (v := (.tuple #[(Value.agg #[(Value.string ⟨#[]⟩), (Value.string ⟨#[]⟩), (Value.bool false), (Value.int .u32 0), (Value.int .i64 0), (Value.string ⟨#[]⟩), (Value.bool false), (Value.string ⟨#[]⟩), (Value.string ⟨#[]⟩)]), .int .i64 30])) (by simp only [results, Tryz.results123]; go_simp) rfl ⟨by rw [ hR2.out] <;> rfl, ?_⟩; (exact bw_)
          | false =>
            rw [hin] at hnet
            replace hnet := Lib.hid hnet
            replace hin := Lib.hid hin
            go_wp2_with (first | (go_at_call 149; refine ( hnull.out _).mono ?_; rintro e w1 ⟨rfl, rfl⟩) | ((first | (go_at_call 123; refine (hih.out _).mono ?_) | (go_at_call 65; refine (hnet.out _).mono ?_) | (go_at_call 145; refine (ref3_fails 30 _).mono ?_)); rintro e w1 ⟨rfl, hb⟩; obtain ⟨hc, hfz⟩ := bcell hb; have hz := hb.size; (try simp at hz); (try have hz0 := lt_ hb w.heap.size); (try have hz1 := lt_ hb (w.heap.size + 1)); (try have hz2 := lt_ hb (w.heap.size + 2)); (try have hz3 := lt_ hb (w.heap.size + 3)); (try have hcA := fun o => hc w.heap.size o sz_); (try have hcB := fun o => hc (w.heap.size + 1) o sz_); (try (have i := cf_ hb g; obtain ⟨hcGg, hfGg, hzGg⟩ := i))))
            refine bodyPost_ret (v := (.tuple #[(Value.agg #[(Value.string ⟨#[]⟩), (Value.string ⟨#[]⟩), (Value.bool false), (Value.int .u32 0), (Value.int .i64 0), (Value.string ⟨#[]⟩), (Value.bool false), (Value.string ⟨#[]⟩), (Value.string ⟨#[]⟩)]), .int .i64 30])) (by simp only [results, Tryz.results123]; go_simp) rfl ⟨by rw [ hR2.out] <;> rfl, ?_⟩; (exact bw_)
end Go.Proofs.YtbafofldgkigmaaGreatDoor
