/- glacisref02.Site. -/
import Derived.Test.YthmgcnaoionmoaaDoorSite2
import Derived.Test.YthmgcnaoionmoaaDoorSplit
namespace Go.Proofs.YthmgcnaoionmoaaDoor
open Go.RowKit
attribute [local irreducible] Calls
theorem join_cons (a : List UInt8) (r : List (List UInt8)) : Lib.join (a :: r) [46] = a ++ r.flatMap (46 :: ·) := by
  induction r generalizing a with
  | nil => simp [Lib.join, List.intercalate]
  | cons b s ih =>
    have := ih b
    simp [Lib.join, List.intercalate] at this ⊢
    exact this
set_option maxHeartbeats 4000000 in
theorem ref2_site (h : Gl.Host) (v : Value) (S : List (List UInt8)) (w : World) (hE : Env w) (ha : h.addr < 4294967296) (hn : h.name.length ≤ 1000000) (hv : Strs w w.heap.size v S) (hS : S.length ≤ 1000000) (hSl : ∀ s ∈ S, s.length ≤ 1000000) :
    Calls Tryd.prog 68 #[(Value.agg #[(Value.string ⟨((h).name).toArray⟩), (Value.bool (h).v4), (Value.int .u32 ((h).addr : Int))]), v] w (Ret w ((Value.string ⟨(Gl.siteOf h S).toArray⟩))) := by
  cases hv4 : h.v4 with
  | true =>
    rw [show Gl.siteOf h S = Gl.hostText h by unfold Gl.siteOf; rw [if_pos hv4]]
    have ht : ∀ W, Below w.heap.size w W → Calls Tryd.prog 61 #[(Value.agg #[(Value.string ⟨((h).name).toArray⟩), (Value.bool (h).v4), (Value.int .u32 ((h).addr : Int))])] W (Ret W ((Value.string ⟨(Gl.hostText h).toArray⟩))) := fun W hW => ref2_text h W (hE.below hW) ha
    rw [hv4] at ht
    generalize Gl.hostText h = t at *
    replace ht := Lib.hid ht
    obtain ⟨A, c, rfl, _⟩ := hv
    go_enter Tryd.func68, Tryd.ntmps68
    go_wp2_with (go_at_call 61; refine ( ht.out _ (by (repeat' first | (with_reducible exact Below.refl _ _) | (with_reducible refine Below.setCell ?_ (by first | omega | (simp; done) | (simp; omega)) _) | (with_reducible refine Below.alloc ?_ (by first | omega | (simp; done) | (simp; omega)) _) | refine below_drewN ?_ _ | refine Below.drew ?_ | (refine below_thru (by assumption) ?_ (by first | omega | (simp; done) | (simp; omega))) | exact Below.refl _ _))).mono ?_; rintro e w1 ⟨rfl, hb⟩; obtain ⟨hc, hfz⟩ := bcell hb; have hz := hb.size; (try simp at hz); (try have hz0 : w.heap.size < w1.heap.size := by omega); (try have hz1 : w.heap.size + 1 < w1.heap.size := by omega); (try have hz2 : w.heap.size + 2 < w1.heap.size := by omega); (try have hz3 : w.heap.size + 3 < w1.heap.size := by omega); (try have hcA := fun o => hc w.heap.size o (by first | omega | (simp; omega))); (try have hcB := fun o => hc (w.heap.size + 1) o (by first | omega | (simp; omega))); (try have hcGg := fun o => hc g o (by first | omega | (simp; omega))); (try have hfGg := fun o => hfz g o (by first | omega | (simp; omega))); (try have hzGg : g < w1.heap.size := by omega); (try have hcGgA := fun o => hc gA o (by first | omega | (simp; omega))); (try have hfGgA := fun o => hfz gA o (by first | omega | (simp; omega))); (try have hzGgA : gA < w1.heap.size := by omega); (try have hcGgB := fun o => hc gB o (by first | omega | (simp; omega))); (try have hfGgB := fun o => hfz gB o (by first | omega | (simp; omega))); (try have hzGgB : gB < w1.heap.size := by omega); (try have hcGgV := fun o => hc gV o (by first | omega | (simp; omega))); (try have hfGgV := fun o => hfz gV o (by first | omega | (simp; omega))); (try have hzGgV : gV < w1.heap.size := by omega))
    go_ret
    exact ⟨by rfl, by (repeat' first | (with_reducible exact Below.refl _ _) | (with_reducible refine Below.setCell ?_ (by first | omega | (simp; done) | (simp; omega)) _) | (with_reducible refine Below.alloc ?_ (by first | omega | (simp; done) | (simp; omega)) _) | refine below_drewN ?_ _ | refine Below.drew ?_ | (refine below_thru (by assumption) ?_ (by first | omega | (simp; done) | (simp; omega))) | exact Below.refl _ _)⟩
  | false =>
    have hR : Gl.siteOf h S = Lib.join (Gl.siteParts (Gl.split 46 h.name) (Gl.best (Gl.split 46 h.name) 0 S)) [46] := by unfold Gl.siteOf; rw [if_neg (by rw [hv4]; simp)]
    generalize Gl.siteOf h S = R at *
    have hpos := split_pos 46 h.name
    have hsl := split_len 46 h.name
    have hlen := slashed_split 46 h.name
    have hsp : ∀ W, Calls Tryd.prog 91 #[(Value.string ⟨(h.name).toArray⟩), .int .u8 46] W (RetStrs W (Gl.split 46 h.name)) := fun W => ref1_split h.name 46 W (by omega)
    generalize hL : Gl.split 46 h.name = L at *
    clear hL
    generalize hB : Gl.best L 0 S = BB at *
    have hBB := best_le L S 0 (by omega)
    rw [hB] at hBB
    have hRl : R.length ≤ 1000002 := by
      have h1 := join_len (Gl.siteParts L BB) 46
      have h2 := slashed_drop L (L.length - max BB 1 - 1)
      unfold Gl.siteParts at h1 hR
      rw [hR]; omega
    replace hB := Lib.hid hB
    replace hsp := Lib.hid hsp
    replace hR := Lib.hid hR
    have H := Lib.hid hv
    obtain ⟨A, c, rfl, hc1, hc2, _⟩ := hv
    unfold maxLen at hc2
    go_enter Tryd.func68, Tryd.ntmps68
    go_wp2_with (go_at_call 91; refine ( hsp.out _).mono ?_; rintro e w1 ⟨v, rfl, hst, hb⟩; obtain ⟨hc, hfz⟩ := bcell hb; have hz := hb.size; (try simp at hz); (try have hz0 : w.heap.size < w1.heap.size := by omega); (try have hz1 : w.heap.size + 1 < w1.heap.size := by omega); (try have hz2 : w.heap.size + 2 < w1.heap.size := by omega); (try have hz3 : w.heap.size + 3 < w1.heap.size := by omega); obtain ⟨lb, lc, hlc, hlm, hlB, hlv, _, hlcell⟩ := hst.at_; obtain rfl := hlv ( hpos); obtain ⟨hlb, hlB⟩ := hlB ( hpos))
    have hw1 : Below w.heap.size w w1 := by (repeat' first | (with_reducible exact Below.refl _ _) | (with_reducible refine Below.setCell ?_ (by first | omega | (simp; done) | (simp; omega)) _) | (with_reducible refine Below.alloc ?_ (by first | omega | (simp; done) | (simp; omega)) _) | refine below_drewN ?_ _ | refine Below.drew ?_ | (refine below_thru (by assumption) ?_ (by first | omega | (simp; done) | (simp; omega))) | exact Below.refl _ _)
    have hA6 := Lib.hid hst.strs
    unfold maxLen at hlm
    clear hc hfz hb hst hlcell hlb
    go_loopw [6, 7] (fun p i wr => ∃ k b : Nat, k ≤ S.length ∧ i = .int .i64 k ∧ p = .int .i64 b ∧ b ≤ L.length ∧ Below w1.heap.size w1 wr ∧ Hid (Gl.best L b (S.drop k) = BB)) (fun _ i _ => S.length - (intOf i).toNat)
    case atStart => exact ⟨0, 0, Nat.zero_le _, rfl, rfl, Nat.zero_le _, Below.refl _ _, hB⟩
    case round =>
      obtain ⟨k, b, hk, rfl, rfl, hbl, hwr, hr⟩ := hrel
      have hww : Below w.heap.size w wr := hw1.trans (hwr.mono hw1.size)
      by_cases hlt : k < S.length
      · obtain ⟨sb, so, sd, he, hsB, hcell⟩ := H.out.cells k hlt
        injection he with he1 he2 he3
        subst he1 he3
        have hck := (hww.cell (p := ⟨sb, so + k, none⟩) hsB).trans (hcell k hlt)
        clear hcell
        have hkl := hSl S[k] (List.getElem_mem hlt)
        have hsk : ∀ W, Calls Tryd.prog 91 #[(Value.string ⟨(S[k]).toArray⟩), .int .u8 46] W (RetStrs W (Gl.split 46 S[k])) := fun W => ref1_split S[k] 46 W (by omega)
        have hpk := split_pos 46 S[k]
        have hslk := split_len 46 S[k]
        have hstep : Gl.best L b (S.drop k) = Gl.best L (if Gl.endsIn L (Gl.split 46 S[k]) = true then max b (Gl.split 46 S[k]).length else b) (S.drop (k + 1)) := by rw [drop_consL hlt]; rfl
        generalize Gl.split 46 S[k] = M at *
        rw [hstep] at hr
        clear hstep
        have hen : ∀ W vM, Below w1.heap.size w1 W → Strs W W.heap.size vM M → Calls Tryd.prog 92 #[.slice (some ⟨lb, 0, none⟩) L.length lc, vM] W (Ret W (.bool (Gl.endsIn L M))) := fun W vM hW hM => ref2_ends _ vM L M W w1.heap.size W.heap.size (hA6.out.keep hW) hM hpk (by omega) (by omega)
        have hel := @endsIn_len L M
        generalize Gl.endsIn L M = q at *
        replace hsk := Lib.hid hsk
        replace hen := Lib.hid hen
        have hX := fun (W W2 : World) (v : Value) (hW : Below w1.heap.size w1 W) (hb : Below W.heap.size W W2) (hown : Own W2 W.heap.size v M) => hen.out W2 v (hW.trans (hb.mono hW.size)) hown.strs
        replace hX := Lib.hid hX
        cases q with
        | true =>
          have hM := hel rfl
          by_cases hmb : b < M.length
          · have hf : Hid (Gl.best L M.length (S.drop (k + 1)) = BB) := Lib.hid (by rw [← hr.out]; simp only [if_true]; rw [Nat.max_eq_right (by omega)])
            clear hr hel hen
            go_wp2_with (first
              | (go_at_call 91; refine (hsk.out _).mono ?_; rintro e w2 ⟨v, rfl, hown, hb2⟩; have hcl := hX.out _ _ _ hwr hb2 hown; replace hcl := Lib.hid hcl; obtain ⟨mb, mc, hmc, hmm, hmB, hmv, _, _⟩ := hown.at_; obtain rfl := hmv hpk; unfold maxLen at hmm)
              | (go_at_call 92; refine hcl.out.mono ?_; rintro e w3 ⟨rfl, hb3⟩))
            go_roundw
            case rel => exact ⟨k + 1, M.length, by omega, by go_num, rfl, hM, hwr.trans ((hb2.trans (hb3.mono hb2.size)).mono hwr.size), hf⟩
            case measure => simp [intOf]; omega
          · have hf : Hid (Gl.best L b (S.drop (k + 1)) = BB) := Lib.hid (by rw [← hr.out]; simp only [if_true]; rw [Nat.max_eq_left (by omega)])
            clear hr hel hen
            go_wp2_with (first
              | (go_at_call 91; refine (hsk.out _).mono ?_; rintro e w2 ⟨v, rfl, hown, hb2⟩; have hcl := hX.out _ _ _ hwr hb2 hown; replace hcl := Lib.hid hcl; obtain ⟨mb, mc, hmc, hmm, hmB, hmv, _, _⟩ := hown.at_; obtain rfl := hmv hpk; unfold maxLen at hmm)
              | (go_at_call 92; refine hcl.out.mono ?_; rintro e w3 ⟨rfl, hb3⟩))
            go_roundw
            case rel => exact ⟨k + 1, b, by omega, by go_num, rfl, hbl, hwr.trans ((hb2.trans (hb3.mono hb2.size)).mono hwr.size), hf⟩
            case measure => simp [intOf]; omega
        | false =>
          have hf : Hid (Gl.best L b (S.drop (k + 1)) = BB) := Lib.hid (by rw [← hr.out]; rfl)
          clear hr hel hen
          go_wp2_with (first
            | (go_at_call 91; refine (hsk.out _).mono ?_; rintro e w2 ⟨v, rfl, hown, hb2⟩; have hcl := hX.out _ _ _ hwr hb2 hown; replace hcl := Lib.hid hcl; obtain ⟨mb, mc, hmc, hmm, hmB, hmv, _, _⟩ := hown.at_; obtain rfl := hmv hpk; unfold maxLen at hmm)
            | (go_at_call 92; refine hcl.out.mono ?_; rintro e w3 ⟨rfl, hb3⟩))
          go_roundw
          case rel => exact ⟨k + 1, b, by omega, by go_num, rfl, hbl, hwr.trans ((hb2.trans (hb3.mono hb2.size)).mono hwr.size), hf⟩
          case measure => simp [intOf]; omega
      · have hf : Hid (BB = b) := Lib.hid (by rw [← hr.out, List.drop_eq_nil_of_le (by omega)]; rfl)
        have hR2 : Hid (R = Lib.join (L.drop (L.length - max b 1 - 1)) [46]) := Lib.hid (by rw [hR.out, hf.out]; rfl)
        clear hr
        clear hf hlB hlv
        obtain ⟨K, hK1, hK2, hKl, hR3⟩ : ∃ K : Nat, K ≤ L.length - max b 1 - 1 ∧ L.length - max b 1 - 1 ≤ K ∧ K < L.length ∧ R = Lib.join (L.drop K) [46] := ⟨_, Nat.le_refl _, Nat.le_refl _, by omega, hR2.out⟩
        clear hR2
        have hR2 := Lib.hid hR3
        clear hR3
        rcases Nat.eq_zero_or_pos b with hb0 | hb0 <;> rcases Nat.lt_or_ge L.length (max b 1 + 1) with hsg | hsg
        all_goals
          try subst hb0
          go_wp2_with fail
          go_loopw [11, 12] (fun o i wq => ∃ (m : Nat) (out : List UInt8), K ≤ m ∧ m ≤ L.length ∧ i = .int .i64 m ∧ o = (Value.string ⟨(out).toArray⟩) ∧ out.length ≤ 1000002 ∧ Below w1.heap.size w1 wq ∧ Hid (m = K → out = []) ∧ Hid (K < m → out ++ (L.drop m).flatMap (46 :: ·) = R)) (fun _ i _ => L.length - (intOf i).toNat)
          case atStart => exact ⟨K, [], Nat.le_refl _, by omega, by first | rfl | (congr 1; omega), rfl, by simp, hwr, Lib.hid (fun _ => rfl), Lib.hid (fun h => absurd h (Nat.lt_irrefl _))⟩
          case round =>
            obtain ⟨m, out, hm1, hm2, rfl, rfl, hol, hwq, hz, hr⟩ := hrel
            by_cases hml : m < L.length
            · obtain ⟨qb, qo, qd, he, hqB, hcell⟩ := (hA6.out.keep hwq).cells m hml
              injection he with he1 he2 he3
              injection he1 with he1
              injection he1 with he4 he5
              subst he4 he5 he3
              have hck := hcell m hml
              rw [Nat.zero_add] at hck
              clear hcell
              by_cases hmk : m = K
              · have ho := hz.out hmk
                subst ho
                have hf : Hid (L[m] ++ (L.drop (m + 1)).flatMap (46 :: ·) = R) := Lib.hid (by rw [hR2.out, ← hmk, drop_consL hml, join_cons])
                have hfl : L[m].length ≤ 1000002 := by
                  have := congrArg List.length hf.out
                  rw [List.length_append] at this
                  omega
                have hmk1 : m ≤ K := by omega
                clear hz hr hmk
                go_wp2_with fail
                go_roundw
                case rel => exact ⟨m + 1, L[m], by omega, by omega, by go_num, by simp, hfl, hwq, Lib.hid (fun h => by omega), Lib.hid (fun _ => hf.out)⟩
                case measure => simp [intOf]; omega
              · have hkm : K < m := by omega
                first
                | (exfalso; omega)
                | (have hf : Hid ((out ++ 46 :: L[m]) ++ (L.drop (m + 1)).flatMap (46 :: ·) = R) := Lib.hid (by rw [← hr.out hkm, drop_consL hml]; simp only [List.flatMap_cons, List.append_assoc, List.cons_append])
                   have hfl : (out ++ 46 :: L[m]).length ≤ 1000002 := by
                     have := congrArg List.length hf.out
                     rw [List.length_append] at this
                     omega
                   have hfl' : out.length + L[m].length + 1 ≤ 1000002 := by simpa [Nat.add_assoc] using hfl
                   clear hz hr
                   go_wp2_with fail
                   go_roundw
                   case rel => exact ⟨m + 1, out ++ 46 :: L[m], by omega, by omega, by go_num, by simp, hfl, hwq, Lib.hid (fun h => by omega), Lib.hid (fun _ => hf.out)⟩
                   case measure => simp [intOf]; omega)
            · have hml2 : m = L.length := by omega
              have hf : Hid (out = R) := Lib.hid (by have := hr.out (by omega); rw [List.drop_eq_nil_of_le (by omega)] at this; simpa using this)
              go_wp2_with fail
              go_ret
              exact ⟨by rw [hf.out] <;> rfl, hw1.trans (hwq.mono hw1.size)⟩
end Go.Proofs.YthmgcnaoionmoaaDoor
