/- The law CspmatchSchemes: its row and its card. -/
import Derived.Test.YtjghhhoebdlciaaDoorRows0
import Derived.Test.YtjghhhoebdlciaaDoorLaw11S
import Derived.Test.YtjghhhoebdlciaaDoorRows4
namespace Go.Proofs.YtjghhhoebdlciaaDoor
open Go.ChangeShapes Go.WideShapes Go.ChangeAt Go.RowKit
open Go.ChangeMaps (open_string shut_string)

set_option maxRecDepth 100000 in
theorem cspmatchSchemes_lifted (os : Os) (started : os.Started) (H : Type) (enc : TypeId × Value → H) :
    ReturnsInHanded {} Tryd.checked os 7 .any (fun w args => (Rows.cspmatchSchemesSpec.pre enc Tryd.prog Tryd.f7 Rows.cspmatchSchemesRow.domain false w args ∧ laidMetH Tryd.prog Rows.cspmatchSchemesRow.laid w) ∧ sizedMet enc Tryd.prog Tryd.f7 (OpenSpec.ofChange Rows.cspmatchSchemesSpec) false w args)
      (Rows.cspmatchSchemesSpec.post enc Tryd.prog Tryd.f7 false true false false) := by
  refine returns_of started (by kernel_rfl) Tryd.func7
    (ChangeSpec.witness_shaped (enc := enc) (C := Tryd.checked) (os := os) (X := fun w _ => laidMetH Tryd.prog Rows.cspmatchSchemesRow.laid w) false (World.laidAll Tryd.prog os Rows.cspmatchSchemesRow.laid) #[(.agg #[.bool false, .int .i64 0, .string ⟨#[]⟩, .string ⟨#[]⟩, .bool false, .int .u32 0, .int .i64 0]), (.agg #[.bool false, .int .i64 0, .string ⟨#[]⟩, .string ⟨#[]⟩, .bool false, .int .u32 0, .int .i64 0]), (.string ⟨#[]⟩)] 8 (World.laidAll_os _ _ _)
      (World.shaped_of_ZipB (by kernel_rfl) (by kernel_rfl)) (by kernel_rfl) (by kernel_rfl) (by kernel_rfl)
      (by rw [MakeChecks.laidMetH_plain _ _ _ (by kernel_rfl)]; exact laidMet_laidAll _ (by kernel_rfl) (by kernel_rfl))) ?_
  intro W base args ds gs before hval0 hW hL hS
  have hE : Env W := env_of hS hL
  have hval : ∀ (j : Nat) t v, Tryd.f7.params[j]? = some t → args[j]? = some v → Value.okWide Tryd.prog W .any base t v := hval0
  have hW' := hW
  obtain ⟨p, q, hA0, hV, rfl, _, _⟩ := hW
  have hA : DataW.TrodAll enc Tryd.prog W 0 (fun _ => true) true Tryd.f7.params.toList args.toList ds p := hA0
  rw [Tryd.params7] at hA hval
  have hlt := DataW.TrodAll.lt hA0
  obtain ⟨v0, v1, v2, d0, d1, d2, p0, p1, p2, rfl, rfl, rfl, h0, h1, h2⟩ := trodAll_three hA
  obtain ⟨rfl, rfl⟩ := trodVars_none hV
  simp only [List.append_nil] at hW'
  have k0 := h0
  obtain ⟨o0, rfl, ho0⟩ := open_origin (hval 0 _ _ rfl rfl) h0
  have k1 := h1
  obtain ⟨o1, rfl, ho1⟩ := open_origin (hval 1 _ _ rfl rfl) h1
  have k2 := h2
  obtain ⟨⟨⟨l2⟩⟩, rfl, _, _, hs2⟩ := open_string Tryd.underlying9 (hval 2 _ _ rfl rfl) h2
  refine (law11_schemes o0 o1 l2 W hE ho0.addr).mono fun e W' ⟨he, hw⟩ => ?_
  subst he
  exact ⟨_, rfl, ⟨_, _, _, [], _, [], hW', trodAll_mk1 (shut_bool Tryd.underlying4 _), trodAll_mk3 (Below.trod laidOut (by kernel_rfl) (of_decide_eq_true (by kernel_rfl)) k0 hw (fun x hx => hlt x (by simp [hx]))) (Below.trod laidOut (by kernel_rfl) (of_decide_eq_true (by kernel_rfl)) k1 hw (fun x hx => hlt x (by simp [hx]))) (Below.trod laidOut (by kernel_rfl) (of_decide_eq_true (by kernel_rfl)) k2 hw (fun x hx => hlt x (by simp [hx]))), rfl, hw.frame _, fun h => by cases h⟩⟩

theorem cspmatchSchemes_row : Rows.CspmatchSchemesSaid :=
  OpenClaim.holds_of_wide 7 Tryd.f7 rfl rfl rfl rfl rfl rfl rfl ⟨rfl, rfl, rfl, rfl, rfl⟩ rfl rfl rfl rfl rfl (by kernel_rfl) Tryd.func7 (by kernel_rfl)
    (of_decide_eq_true (by kernel_rfl)) (by unfold Func.isWrapper; first | (rw [if_pos (by decide +kernel)]; kernel_rfl) | (rw [if_neg (by decide +kernel)]; exact ⟨rfl, rfl⟩))
    (fun os started H enc _ => cspmatchSchemes_lifted os started H enc)
theorem cspmatchSchemes_holds : Rows.CspmatchSchemesCardSaid :=
  Claim7.holds_tied_plain_at .later [] [.data, .data, .data, .data, .pinned] true (true, "5571fa93bcbb20c4d566cda15d57aad7459d9e3a13cf3cac1f3b3ecd80b09773") false cspmatchSchemes_row (fun _ h => by cases h) (by kernel_rfl) (fun _ h => by cases h) cspmatchSchemes_row_tie rfl ⟨rfl, rfl⟩ (by kernel_rfl) rfl
    (fun f fn hf hfn => by
      obtain rfl : f = 7 := Option.some.inj ((show Tryd.prog.funcNamed "glacis/glacislaw11.CspmatchSchemes" = some 7 by kernel_rfl).symm.trans hf) |>.symm
      obtain rfl : fn = Tryd.f7 := (Option.some.inj (Tryd.func7.symm.trans hfn)).symm
      exact ⟨by kernel_rfl, fun j t ht => by
        rw [Tryd.params7] at ht
        have hm : t ∈ [35, 35, 9] := by simpa using Array.mem_of_getElem? ht
        have hall : ([35, 35, 9].all fun u => !Tryd.prog.wantsStandIn u) = true := by kernel_rfl
        exact (show Tryd.prog.wantsStandIn t = false by simpa using List.all_eq_true.1 hall t hm)⟩)
    (by kernel_rfl)
end Go.Proofs.YtjghhhoebdlciaaDoor
