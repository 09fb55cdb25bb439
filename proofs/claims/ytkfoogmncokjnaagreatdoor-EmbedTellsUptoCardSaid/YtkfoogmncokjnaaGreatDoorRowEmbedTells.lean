/- The law EmbedTells: its row and its card. -/
import Derived.Test.YtkfoogmncokjnaaGreatDoorRows0
import Derived.Deep.DeepHandedRow
import Derived.Test.YtkfoogmncokjnaaGreatDoorLaw18T
import Derived.Test.YtkfoogmncokjnaaGreatDoorRows18
namespace Go.Proofs.YtkfoogmncokjnaaGreatDoor
open Go.ChangeShapes Go.WideShapes Go.ChangeAt Go.RowKit
open Go.ChangeMaps (open_string shut_string)

set_option maxRecDepth 100000 in
theorem embedTells_lifted (os : Os) (started : os.Started) (H : Type) (enc : TypeId × Value → H) (F : Stop.Interp) :
    ReturnsInHanded {} Tryz.checked os 3 .any ((Rows.OpenSpec.upto Rows.embedTellsSpec).preRow enc Tryz.prog Tryz.f3 Rows.embedTellsUptoRow.domain false Rows.embedTellsUptoRow.laid) (((Rows.OpenSpec.upto Rows.embedTellsSpec).at F).post enc Tryz.prog Tryz.f3 false true false false) := by
  have hx : ∃ places, DataW.whole enc Tryz.prog ((World.laidAll Tryz.prog os Rows.embedTellsUptoRow.laid).forCall (fun _ _ => 0) ⟨#[], #[(.agg #[.slice none 0 0, .int .i64 0, .string ⟨#[]⟩, .int .i64 0, .string ⟨#[]⟩]), (.int .i64 0), (.agg #[.bool false, .int .i64 0, .string ⟨#[]⟩, .string ⟨#[]⟩, .bool false, .int .u32 0, .int .i64 0]), (.slice none 0 0)], []⟩).memory Tryz.f3.params.toList Rows.embedTellsSpec.vars false (#[(.agg #[.slice none 0 0, .int .i64 0, .string ⟨#[]⟩, .int .i64 0, .string ⟨#[]⟩]), (.int .i64 0), (.agg #[.bool false, .int .i64 0, .string ⟨#[]⟩, .string ⟨#[]⟩, .bool false, .int .u32 0, .int .i64 0]), (.slice none 0 0)] : Array Value).toList 8 = some ([.agg [.nil, .agg [.lit (.int .i64 0), .lit (.string []), .lit (.int .i64 0), .lit (.string [])]], .lit (.int .i64 0), .agg [.lit (.bool false), .lit (.int .i64 0), .lit (.string []), .agg [.lit (.string []), .lit (.bool false), .lit (.int .u32 0)], .lit (.int .i64 0)], .nil], [], places) := ⟨[], by kernel_rfl⟩
  obtain ⟨places, hx⟩ := hx
  refine returnsInHanded_of_row (C := Tryz.checked) (s := Rows.OpenSpec.upto Rows.embedTellsSpec) ownK started (by kernel_rfl) Tryz.func3
    (witness_row_at (enc := enc) (C := Tryz.checked) false (World.laidAll Tryz.prog os Rows.embedTellsUptoRow.laid) #[(.agg #[.slice none 0 0, .int .i64 0, .string ⟨#[]⟩, .int .i64 0, .string ⟨#[]⟩]), (.int .i64 0), (.agg #[.bool false, .int .i64 0, .string ⟨#[]⟩, .string ⟨#[]⟩, .bool false, .int .u32 0, .int .i64 0]), (.slice none 0 0)] (World.laidAll_os _ _ _) (by kernel_rfl) (by kernel_rfl) (by kernel_rfl)
      (OpenSpec.preRow_of_cond 8 hx (by kernel_rfl) (fun k hk => by cases hk; kernel_rfl) (by kernel_rfl) (by rw [MakeChecks.laidMetH_plain _ _ _ (by kernel_rfl)]; exact laidMet_laidAll _ (by kernel_rfl) (by kernel_rfl)))) ?_
  intro W base args ds gs before hval0 hW _ hcond _ hL hS _
  have hE : Env W := env_of hS hL
  have hval : ∀ (j : Nat) t v, Tryz.f3.params[j]? = some t → args[j]? = some v → Value.okWide Tryz.prog W .any base t v := hval0
  have hW' := hW
  obtain ⟨p, q, hA0, hV, rfl, _, _⟩ := hW
  have hA : DataW.TrodAll enc Tryz.prog W 0 (fun _ => true) true Tryz.f3.params.toList args.toList ds p := hA0
  rw [Tryz.params3] at hA hval
  have hlt := DataW.TrodAll.lt hA0
  obtain ⟨v0, v1, v2, v3, d0, d1, d2, d3, p0, p1, p2, p3, rfl, rfl, rfl, h0, h1, h2, h3⟩ := trodAll_four hA
  obtain ⟨rfl, rfl⟩ := trodVars_none hV
  simp only [List.append_nil] at hW'
  have k0 := h0
  obtain ⟨vp0, P0, ev0, er0, et0, eu0, rfl, hP0, hPl0, hPb0⟩ := open_container (hval 0 _ _ rfl rfl) h0
  have k1 := h1
  obtain ⟨n1, rfl, _, _, hn1⟩ := open_int Tryz.underlying3 (hval 1 _ _ rfl rfl) h1
  have k2 := h2
  obtain ⟨o2, rfl, ho2⟩ := open_origin (hval 2 _ _ rfl rfl) h2
  have k3 := h3
  obtain ⟨A3, hA3, hAf3, hAb3⟩ := open_origsB (hval 3 _ _ rfl rfl) h3
  have hk := of_decide_eq_true (hcond _ rfl)
  simp only [List.append_nil, Rows.uptoBulkAll] at hk
  have hb0 : Rows.uptoBulk d0 ≤ 1048576 := by omega
  have hb1 : Rows.uptoBulk d1 ≤ 1048576 := by omega
  have hb2 : Rows.uptoBulk d2 ≤ 1048576 := by omega
  have hb3 : Rows.uptoBulk d3 ≤ 1048576 := by omega
  refine (law18_tells vp0 P0 ev0 er0 et0 eu0 n1 o2 v3 A3 W hE hP0 (Nat.le_trans hPl0 hb0) (fun p hp => by obtain ⟨b1, b2, b3, b4⟩ := hPb0 p hp; exact ⟨Nat.le_trans b1 hb0, Nat.le_trans b2 hb0, fun s hs => Nat.le_trans (b3 s hs) hb0⟩) hA3 (fun a ha => (hAf3 a ha).addr)).mono fun e W' ⟨he, hw⟩ => ?_
  subst he
  exact ⟨_, rfl, ⟨_, _, _, [], _, [], hW', trodAll_mk1 (shut_bool Tryz.underlying4 _), trodAll_mk4 (Below.trod laidOut (by kernel_rfl) (of_decide_eq_true (by kernel_rfl)) k0 hw (fun x hx => hlt x (by simp [hx]))) (Below.trod laidOut (by kernel_rfl) (of_decide_eq_true (by kernel_rfl)) k1 hw (fun x hx => hlt x (by simp [hx]))) (Below.trod laidOut (by kernel_rfl) (of_decide_eq_true (by kernel_rfl)) k2 hw (fun x hx => hlt x (by simp [hx]))) (Below.trod laidOut (by kernel_rfl) (of_decide_eq_true (by kernel_rfl)) k3 hw (fun x hx => hlt x (by simp [hx]))), rfl, hw.frame _, fun h => by cases h⟩⟩

theorem embedTells_row : Rows.EmbedTellsUptoSaid :=
  OpenClaim.holds_of_cond 3 Tryz.f3 rfl rfl rfl rfl rfl rfl rfl ⟨rfl, rfl, rfl, rfl, rfl⟩ rfl rfl rfl rfl rfl (by kernel_rfl) Tryz.func3 (by kernel_rfl)
    (of_decide_eq_true (by kernel_rfl)) (by unfold Func.isWrapper; first | (rw [if_pos (by decide +kernel)]; kernel_rfl) | (rw [if_neg (by decide +kernel)]; exact ⟨rfl, rfl⟩))
    (fun os started H enc _ F => by rw [OpenClaim.pre_eq_preRow]; exact embedTells_lifted os started H enc F)
theorem embedTells_holds : Rows.EmbedTellsUptoCardSaid :=
  Claim7.holds_tied_plain_at .later [] [.data, .data, .data, .data, .pinned] true (true, "fb855555a396ef97fda0ca07147e7881c82f2938010235ed9f2e338e22cba233") false embedTells_row (fun _ h => by cases h) (by kernel_rfl) (fun _ h => by cases h) embedTellsUpto_row_tie rfl ⟨rfl, rfl⟩ (by kernel_rfl) rfl
    (fun f fn hf hfn => by
      obtain rfl : f = 3 := Option.some.inj ((show Tryz.prog.funcNamed "glacis/glacislaw18.EmbedTells" = some 3 by kernel_rfl).symm.trans hf) |>.symm
      obtain rfl : fn = Tryz.f3 := (Option.some.inj (Tryz.func3.symm.trans hfn)).symm
      exact ⟨by kernel_rfl, fun j t ht => by
        rw [Tryz.params3] at ht
        have hm : t ∈ [26, 3, 31, 32] := by simpa using Array.mem_of_getElem? ht
        have hall : ([26, 3, 31, 32].all fun u => !Tryz.prog.wantsStandIn u) = true := by kernel_rfl
        exact (show Tryz.prog.wantsStandIn t = false by simpa using List.all_eq_true.1 hall t hm)⟩)
    (by kernel_rfl)
end Go.Proofs.YtkfoogmncokjnaaGreatDoor
