/- The law EmbedOwn: its row and its card. -/
import Derived.Test.YtkfoogmncokjnaaDoorRows0
import Derived.Test.YtkfoogmncokjnaaDoorLaw18O
import Derived.Test.YtkfoogmncokjnaaDoorRows4
import Derived.Test.YtkfoogmncokjnaaDoorRows11
namespace Go.Proofs.YtkfoogmncokjnaaDoor
open Go.ChangeShapes Go.WideShapes Go.ChangeAt Go.RowKit
open Go.ChangeMaps (open_string shut_string)

set_option maxRecDepth 100000 in
theorem embedOwn_lifted (os : Os) (started : os.Started) (H : Type) (enc : TypeId × Value → H) :
    ReturnsInHanded {} Tryd.checked os 5 .any (fun w args => (Rows.embedOwnSpec.pre enc Tryd.prog Tryd.f5 Rows.embedOwnRow.domain false w args ∧ laidMetH Tryd.prog Rows.embedOwnRow.laid w) ∧ sizedMet enc Tryd.prog Tryd.f5 (OpenSpec.ofChange Rows.embedOwnSpec) false w args)
      (Rows.embedOwnSpec.post enc Tryd.prog Tryd.f5 false true false false) := by
  refine returns_of started (by kernel_rfl) Tryd.func5
    (ChangeSpec.witness_shaped (enc := enc) (C := Tryd.checked) (os := os) (X := fun w _ => laidMetH Tryd.prog Rows.embedOwnRow.laid w) false (World.laidAll Tryd.prog os Rows.embedOwnRow.laid) #[(.agg #[.bool false, .int .i64 0, .string ⟨#[]⟩, .string ⟨#[]⟩, .bool false, .int .u32 0, .int .i64 0]), (.slice none 0 0), (.int .i64 0)] 8 (World.laidAll_os _ _ _)
      (World.shaped_of_ZipB (by kernel_rfl) (by kernel_rfl)) (by kernel_rfl) (by kernel_rfl) (by kernel_rfl)
      (by rw [MakeChecks.laidMetH_plain _ _ _ (by kernel_rfl)]; exact laidMet_laidAll _ (by kernel_rfl) (by kernel_rfl))) ?_
  intro W base args ds gs before hval0 hW hL hS
  have hE : Env W := env_of hS hL
  have hval : ∀ (j : Nat) t v, Tryd.f5.params[j]? = some t → args[j]? = some v → Value.okWide Tryd.prog W .any base t v := hval0
  have hW' := hW
  obtain ⟨p, q, hA0, hV, rfl, _, _⟩ := hW
  have hA : DataW.TrodAll enc Tryd.prog W 0 (fun _ => true) true Tryd.f5.params.toList args.toList ds p := hA0
  rw [Tryd.params5] at hA hval
  have hlt := DataW.TrodAll.lt hA0
  obtain ⟨v0, v1, v2, d0, d1, d2, p0, p1, p2, rfl, rfl, rfl, h0, h1, h2⟩ := trodAll_three hA
  obtain ⟨rfl, rfl⟩ := trodVars_none hV
  simp only [List.append_nil] at hW'
  have k0 := h0
  obtain ⟨o0, rfl, ho0⟩ := open_origin (hval 0 _ _ rfl rfl) h0
  have k1 := h1
  obtain ⟨A1, hA1, hAf1⟩ := open_origs (hval 1 _ _ rfl rfl) h1
  have k2 := h2
  obtain ⟨n2, rfl, _, _, hn2⟩ := open_int Tryd.underlying3 (hval 2 _ _ rfl rfl) h2
  refine (law18_own o0 v1 A1 n2 W hE hA1 (bounds_i64 hn2)).mono fun e W' ⟨he, hw⟩ => ?_
  subst he
  exact ⟨_, rfl, ⟨_, _, _, [], _, [], hW', trodAll_mk1 (shut_bool Tryd.underlying4 _), trodAll_mk3 (Below.trod laidOut (by kernel_rfl) (of_decide_eq_true (by kernel_rfl)) k0 hw (fun x hx => hlt x (by simp [hx]))) (Below.trod laidOut (by kernel_rfl) (of_decide_eq_true (by kernel_rfl)) k1 hw (fun x hx => hlt x (by simp [hx]))) (Below.trod laidOut (by kernel_rfl) (of_decide_eq_true (by kernel_rfl)) k2 hw (fun x hx => hlt x (by simp [hx]))), rfl, hw.frame _, fun h => by cases h⟩⟩

theorem embedOwn_row : Rows.EmbedOwnSaid :=
  OpenClaim.holds_of_wide 5 Tryd.f5 rfl rfl rfl rfl rfl rfl rfl ⟨rfl, rfl, rfl, rfl, rfl⟩ rfl rfl rfl rfl rfl (by kernel_rfl) Tryd.func5 (by kernel_rfl)
    (of_decide_eq_true (by kernel_rfl)) (by unfold Func.isWrapper; first | (rw [if_pos (by decide +kernel)]; kernel_rfl) | (rw [if_neg (by decide +kernel)]; exact ⟨rfl, rfl⟩))
    (fun os started H enc _ => embedOwn_lifted os started H enc)
theorem embedOwn_holds : Rows.EmbedOwnCardSaid :=
  Claim7.holds_tied_plain_at .later [] [.data, .data, .data, .data, .pinned] true (true, "cb01947e2095d2d387fabca5f950d3f4a0fc5fbcfea0b0cb31a21627eae0620f") false embedOwn_row (fun _ h => by cases h) (by kernel_rfl) (fun _ h => by cases h) embedOwn_row_tie rfl ⟨rfl, rfl⟩ (by kernel_rfl) rfl
    (fun f fn hf hfn => by
      obtain rfl : f = 5 := Option.some.inj ((show Tryd.prog.funcNamed "glacis/glacislaw18.EmbedOwn" = some 5 by kernel_rfl).symm.trans hf) |>.symm
      obtain rfl : fn = Tryd.f5 := (Option.some.inj (Tryd.func5.symm.trans hfn)).symm
      exact ⟨by kernel_rfl, fun j t ht => by
        rw [Tryd.params5] at ht
        have hm : t ∈ [34, 35, 3] := by simpa using Array.mem_of_getElem? ht
        have hall : ([34, 35, 3].all fun u => !Tryd.prog.wantsStandIn u) = true := by kernel_rfl
        exact (show Tryd.prog.wantsStandIn t = false by simpa using List.all_eq_true.1 hall t hm)⟩)
    (by kernel_rfl)
end Go.Proofs.YtkfoogmncokjnaaDoor
