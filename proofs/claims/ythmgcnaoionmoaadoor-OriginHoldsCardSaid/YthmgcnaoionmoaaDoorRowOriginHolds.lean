/- The law OriginHolds: its row and its card. -/
import Derived.Test.YthmgcnaoionmoaaDoorRows0
import Derived.Test.YthmgcnaoionmoaaDoorLawOHolds
import Derived.Test.YthmgcnaoionmoaaDoorRows45
namespace Go.Proofs.YthmgcnaoionmoaaDoor
open Go.ChangeShapes Go.WideShapes Go.ChangeAt Go.RowKit
open Go.ChangeMaps (open_string shut_string)

set_option maxRecDepth 100000 in
theorem originHolds_lifted (os : Os) (started : os.Started) (H : Type) (enc : TypeId × Value → H) :
    ReturnsInHanded {} Tryd.checked os 11 .any (fun w args => (Rows.originHoldsSpec.pre enc Tryd.prog Tryd.f11 Rows.originHoldsRow.domain false w args ∧ laidMetH Tryd.prog Rows.originHoldsRow.laid w) ∧ sizedMet enc Tryd.prog Tryd.f11 (OpenSpec.ofChange Rows.originHoldsSpec) false w args)
      (Rows.originHoldsSpec.post enc Tryd.prog Tryd.f11 false true false false) := by
  refine returns_of2 started (by kernel_rfl) Tryd.func11
    (ChangeSpec.witness_shaped (enc := enc) (C := Tryd.checked) (os := os) (X := fun w _ => laidMetH Tryd.prog Rows.originHoldsRow.laid w) false (World.laidAll Tryd.prog os Rows.originHoldsRow.laid) #[(.agg #[.bool false, .int .i64 0, .string ⟨#[]⟩, .string ⟨#[]⟩, .bool false, .int .u32 0, .int .i64 0]), (.agg #[.bool false, .int .i64 0, .string ⟨#[]⟩, .string ⟨#[]⟩, .bool false, .int .u32 0, .int .i64 0]), (.slice none 0 0)] 8 (World.laidAll_os _ _ _)
      (World.shaped_of_ZipB (by kernel_rfl) (by kernel_rfl)) (by kernel_rfl) (by kernel_rfl) (by kernel_rfl)
      (by rw [MakeChecks.laidMetH_plain _ _ _ (by kernel_rfl)]; exact laidMet_laidAll _ (by kernel_rfl) (by kernel_rfl))) ?_
  intro W base args ds gs before hval0 hW hwt hL hS
  have hE : Env W := env_of hS hL
  have hval : ∀ (j : Nat) t v, Tryd.f11.params[j]? = some t → args[j]? = some v → Value.okWide Tryd.prog W .any base t v := hval0
  have hW' := hW
  obtain ⟨p, q, hA0, hV, rfl, _, _⟩ := hW
  have hA : DataW.TrodAll enc Tryd.prog W 0 (fun _ => true) true Tryd.f11.params.toList args.toList ds p := hA0
  rw [Tryd.params11] at hA hval
  have hlt := DataW.TrodAll.lt hA0
  obtain ⟨v0, v1, v2, d0, d1, d2, p0, p1, p2, rfl, rfl, rfl, h0, h1, h2⟩ := trodAll_three hA
  obtain ⟨rfl, rfl⟩ := trodVars_none hV
  simp only [List.append_nil] at hW'
  have k0 := h0
  obtain ⟨o0, rfl, ho0⟩ := open_origin (hval 0 _ _ rfl rfl) h0
  have k1 := h1
  obtain ⟨o1, rfl, ho1⟩ := open_origin (hval 1 _ _ rfl rfl) h1
  have k2 := h2
  obtain ⟨S2, hS2⟩ := open_texts (hval 2 _ _ rfl rfl) h2
  have hw0 : (DataW.weights Tryd.prog 40 d0).all (· ≤ reachBytes) = true := by
    have hwx := hwt
    rw [Tryd.params11] at hwx
    simp only [List.cons_append, DataW.weightsEach, List.all_append, Bool.and_eq_true] at hwx
    exact hwx.1
  refine (law4_holds o0 o1 v2 S2 W hE ho0.addr ho1.addr ho0.port (Nat.le_trans (origin_weight k0 hw0) (by decide)) hS2).mono fun e W' ⟨he, hw⟩ => ?_
  subst he
  exact ⟨_, rfl, ⟨_, _, _, [], _, [], hW', trodAll_mk1 (shut_bool Tryd.underlying4 _), trodAll_mk3 (Below.trod laidOut (by kernel_rfl) (of_decide_eq_true (by kernel_rfl)) k0 hw (fun x hx => hlt x (by simp [hx]))) (Below.trod laidOut (by kernel_rfl) (of_decide_eq_true (by kernel_rfl)) k1 hw (fun x hx => hlt x (by simp [hx]))) (Below.trod laidOut (by kernel_rfl) (of_decide_eq_true (by kernel_rfl)) k2 hw (fun x hx => hlt x (by simp [hx]))), rfl, hw.frame _, fun h => by cases h⟩⟩

theorem originHolds_row : Rows.OriginHoldsSaid :=
  OpenClaim.holds_of_wide 11 Tryd.f11 rfl rfl rfl rfl rfl rfl rfl ⟨rfl, rfl, rfl, rfl, rfl⟩ rfl rfl rfl rfl rfl (by kernel_rfl) Tryd.func11 (by kernel_rfl)
    (of_decide_eq_true (by kernel_rfl)) (by unfold Func.isWrapper; first | (rw [if_pos (by decide +kernel)]; kernel_rfl) | (rw [if_neg (by decide +kernel)]; exact ⟨rfl, rfl⟩))
    (fun os started H enc _ => originHolds_lifted os started H enc)
theorem originHolds_holds : Rows.OriginHoldsCardSaid :=
  Claim7.holds_tied_plain_at .later [] [.data, .data, .data, .data, .pinned] true (true, "a5cdb46439b70ecb27c8f5c82aaf7c0167401f07b9e83c8579d211d837899dc7") false originHolds_row (fun _ h => by cases h) (by kernel_rfl) (fun _ h => by cases h) originHolds_row_tie rfl ⟨rfl, rfl⟩ (by kernel_rfl) rfl
    (fun f fn hf hfn => by
      obtain rfl : f = 11 := Option.some.inj ((show Tryd.prog.funcNamed "glacis/glacislaw04.OriginHolds" = some 11 by kernel_rfl).symm.trans hf) |>.symm
      obtain rfl : fn = Tryd.f11 := (Option.some.inj (Tryd.func11.symm.trans hfn)).symm
      exact ⟨by kernel_rfl, fun j t ht => by
        rw [Tryd.params11] at ht
        have hm : t ∈ [40, 40, 36] := by simpa using Array.mem_of_getElem? ht
        have hall : ([40, 40, 36].all fun u => !Tryd.prog.wantsStandIn u) = true := by kernel_rfl
        exact (show Tryd.prog.wantsStandIn t = false by simpa using List.all_eq_true.1 hall t hm)⟩)
    (by kernel_rfl)
end Go.Proofs.YthmgcnaoionmoaaDoor
