/- The law CspmatchOwn: its row and its card. -/
import Derived.Test.YtjghhhoebdlciaaDoorRows0
import Derived.Deep.DeepHandedRow
import Derived.Test.YtjghhhoebdlciaaDoorLaw11P
import Derived.Test.YtjghhhoebdlciaaDoorRows4
import Derived.Test.YtjghhhoebdlciaaDoorRows11
namespace Go.Proofs.YtjghhhoebdlciaaDoor
open Go.ChangeShapes Go.WideShapes Go.ChangeAt Go.RowKit
open Go.ChangeMaps (open_string shut_string)

set_option maxRecDepth 100000 in
theorem cspmatchOwn_lifted (os : Os) (started : os.Started) (H : Type) (enc : TypeId × Value → H) (F : Stop.Interp) :
    ReturnsInHanded {} Tryd.checked os 8 .any ((Rows.OpenSpec.upto Rows.cspmatchOwnSpec).preRow enc Tryd.prog Tryd.f8 Rows.cspmatchOwnUptoRow.domain false Rows.cspmatchOwnUptoRow.laid) (((Rows.OpenSpec.upto Rows.cspmatchOwnSpec).at F).post enc Tryd.prog Tryd.f8 false true false false) := by
  have hx : ∃ places, DataW.whole enc Tryd.prog ((World.laidAll Tryd.prog os Rows.cspmatchOwnUptoRow.laid).forCall (fun _ _ => 0) ⟨#[], #[(.string ⟨#[]⟩), (.agg #[.bool false, .int .i64 0, .string ⟨#[]⟩, .string ⟨#[]⟩, .bool false, .int .u32 0, .int .i64 0])], []⟩).memory Tryd.f8.params.toList Rows.cspmatchOwnSpec.vars false (#[(.string ⟨#[]⟩), (.agg #[.bool false, .int .i64 0, .string ⟨#[]⟩, .string ⟨#[]⟩, .bool false, .int .u32 0, .int .i64 0])] : Array Value).toList 8 = some ([.lit (.string []), .agg [.lit (.bool false), .lit (.int .i64 0), .lit (.string []), .agg [.lit (.string []), .lit (.bool false), .lit (.int .u32 0)], .lit (.int .i64 0)]], [], places) := ⟨[], by kernel_rfl⟩
  obtain ⟨places, hx⟩ := hx
  refine returnsInHanded_of_row (C := Tryd.checked) (s := Rows.OpenSpec.upto Rows.cspmatchOwnSpec) ownK started (by kernel_rfl) Tryd.func8
    (witness_row_at (enc := enc) (C := Tryd.checked) false (World.laidAll Tryd.prog os Rows.cspmatchOwnUptoRow.laid) #[(.string ⟨#[]⟩), (.agg #[.bool false, .int .i64 0, .string ⟨#[]⟩, .string ⟨#[]⟩, .bool false, .int .u32 0, .int .i64 0])] (World.laidAll_os _ _ _) (by kernel_rfl) (by kernel_rfl) (by kernel_rfl)
      (OpenSpec.preRow_of_cond 8 hx (by kernel_rfl) (fun k hk => by cases hk; kernel_rfl) (by kernel_rfl) (by rw [MakeChecks.laidMetH_plain _ _ _ (by kernel_rfl)]; exact laidMet_laidAll _ (by kernel_rfl) (by kernel_rfl)))) ?_
  intro W base args ds gs before hval0 hW _ hcond _ hL hS _
  have hE : Env W := env_of hS hL
  have hval : ∀ (j : Nat) t v, Tryd.f8.params[j]? = some t → args[j]? = some v → Value.okWide Tryd.prog W .any base t v := hval0
  have hW' := hW
  obtain ⟨p, q, hA0, hV, rfl, _, _⟩ := hW
  have hA : DataW.TrodAll enc Tryd.prog W 0 (fun _ => true) true Tryd.f8.params.toList args.toList ds p := hA0
  rw [Tryd.params8] at hA hval
  have hlt := DataW.TrodAll.lt hA0
  obtain ⟨v0, v1, d0, d1, p0, p1, rfl, rfl, rfl, h0, h1⟩ := trodAll_two hA
  obtain ⟨rfl, rfl⟩ := trodVars_none hV
  simp only [List.append_nil] at hW'
  have k0 := h0
  obtain ⟨⟨⟨l0⟩⟩, rfl, hd0, _, hs0⟩ := open_string Tryd.underlying9 (hval 0 _ _ rfl rfl) h0
  have k1 := h1
  obtain ⟨o1, rfl, ho1⟩ := open_origin (hval 1 _ _ rfl rfl) h1
  have hb0 : l0.length ≤ 1048576 := by
    have hk := of_decide_eq_true (hcond _ rfl)
    rw [hd0] at hk
    simp only [List.append_nil, Rows.uptoBulkAll, Rows.uptoBulk] at hk
    simp at hk
    omega
  refine (law11_own l0 o1 W hE hb0).mono fun e W' ⟨he, hw⟩ => ?_
  subst he
  exact ⟨_, rfl, ⟨_, _, _, [], _, [], hW', trodAll_mk1 (shut_bool Tryd.underlying4 _), trodAll_mk2 (Below.trod laidOut (by kernel_rfl) (of_decide_eq_true (by kernel_rfl)) k0 hw (fun x hx => hlt x (by simp [hx]))) (Below.trod laidOut (by kernel_rfl) (of_decide_eq_true (by kernel_rfl)) k1 hw (fun x hx => hlt x (by simp [hx]))), rfl, hw.frame _, fun h => by cases h⟩⟩

theorem cspmatchOwn_row : Rows.CspmatchOwnUptoSaid :=
  OpenClaim.holds_of_cond 8 Tryd.f8 rfl rfl rfl rfl rfl rfl rfl ⟨rfl, rfl, rfl, rfl, rfl⟩ rfl rfl rfl rfl rfl (by kernel_rfl) Tryd.func8 (by kernel_rfl)
    (of_decide_eq_true (by kernel_rfl)) (by unfold Func.isWrapper; first | (rw [if_pos (by decide +kernel)]; kernel_rfl) | (rw [if_neg (by decide +kernel)]; exact ⟨rfl, rfl⟩))
    (fun os started H enc _ F => by rw [OpenClaim.pre_eq_preRow]; exact cspmatchOwn_lifted os started H enc F)
theorem cspmatchOwn_holds : Rows.CspmatchOwnUptoCardSaid :=
  Claim7.holds_tied_plain_at .later [] [.data, .data, .data, .data, .pinned] true (true, "5571fa93bcbb20c4d566cda15d57aad7459d9e3a13cf3cac1f3b3ecd80b09773") false cspmatchOwn_row (fun _ h => by cases h) (by kernel_rfl) (fun _ h => by cases h) cspmatchOwnUpto_row_tie rfl ⟨rfl, rfl⟩ (by kernel_rfl) rfl
    (fun f fn hf hfn => by
      obtain rfl : f = 8 := Option.some.inj ((show Tryd.prog.funcNamed "glacis/glacislaw11.CspmatchOwn" = some 8 by kernel_rfl).symm.trans hf) |>.symm
      obtain rfl : fn = Tryd.f8 := (Option.some.inj (Tryd.func8.symm.trans hfn)).symm
      exact ⟨by kernel_rfl, fun j t ht => by
        rw [Tryd.params8] at ht
        have hm : t ∈ [9, 35] := by simpa using Array.mem_of_getElem? ht
        have hall : ([9, 35].all fun u => !Tryd.prog.wantsStandIn u) = true := by kernel_rfl
        exact (show Tryd.prog.wantsStandIn t = false by simpa using List.all_eq_true.1 hall t hm)⟩)
    (by kernel_rfl)
end Go.Proofs.YtjghhhoebdlciaaDoor
