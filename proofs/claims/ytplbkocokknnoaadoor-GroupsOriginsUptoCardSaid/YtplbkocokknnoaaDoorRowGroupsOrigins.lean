/- The law GroupsOrigins: its row and its card. -/
import Derived.Test.YtplbkocokknnoaaDoorRows0
import Derived.Deep.DeepHandedRow
import Derived.Test.YtplbkocokknnoaaDoorLawGOrig
import Derived.Test.YtplbkocokknnoaaDoorRows4
namespace Go.Proofs.YtplbkocokknnoaaDoor
open Go.ChangeShapes Go.WideShapes Go.ChangeAt Go.RowKit
open Go.ChangeMaps (open_string shut_string)

set_option maxRecDepth 100000 in
theorem groupsOrigins_lifted (os : Os) (started : os.Started) (H : Type) (enc : TypeId × Value → H) (F : Stop.Interp) :
    ReturnsInHanded {} Tryd.checked os 3 .any ((Rows.OpenSpec.upto Rows.groupsOriginsSpec).preRow enc Tryd.prog Tryd.f3 Rows.groupsOriginsUptoRow.domain false Rows.groupsOriginsUptoRow.laid) (((Rows.OpenSpec.upto Rows.groupsOriginsSpec).at F).post enc Tryd.prog Tryd.f3 false true false false) := by
  have hx : ∃ places, DataW.whole enc Tryd.prog ((World.laidAll Tryd.prog os Rows.groupsOriginsUptoRow.laid).forCall (fun _ _ => 0) ⟨#[], #[(.string ⟨#[]⟩), (.string ⟨#[]⟩), (.slice none 0 0)], []⟩).memory Tryd.f3.params.toList Rows.groupsOriginsSpec.vars false (#[(.string ⟨#[]⟩), (.string ⟨#[]⟩), (.slice none 0 0)] : Array Value).toList 8 = some ([.lit (.string []), .lit (.string []), .nil], [], places) := ⟨[], by kernel_rfl⟩
  obtain ⟨places, hx⟩ := hx
  refine returnsInHanded_of_row (C := Tryd.checked) (s := Rows.OpenSpec.upto Rows.groupsOriginsSpec) ownK started (by kernel_rfl) Tryd.func3
    (witness_row_at (enc := enc) (C := Tryd.checked) false (World.laidAll Tryd.prog os Rows.groupsOriginsUptoRow.laid) #[(.string ⟨#[]⟩), (.string ⟨#[]⟩), (.slice none 0 0)] (World.laidAll_os _ _ _) (by kernel_rfl) (by kernel_rfl) (by kernel_rfl)
      (OpenSpec.preRow_of_cond 8 hx (by kernel_rfl) (fun k hk => by cases hk; kernel_rfl) (by kernel_rfl) (by rw [MakeChecks.laidMetH_plain _ _ _ (by kernel_rfl)]; exact laidMet_laidAll _ (by kernel_rfl) (by kernel_rfl)))) ?_
  intro W base args ds gs before hval0 hW _ hcond _ hL hS _
  have hE : Env W := env_of hS hL
  have hval : ∀ (j : Nat) t v, Tryd.f3.params[j]? = some t → args[j]? = some v → Value.okWide Tryd.prog W .any base t v := hval0
  have hW' := hW
  obtain ⟨p, q, hA0, hV, rfl, _, _⟩ := hW
  have hA : DataW.TrodAll enc Tryd.prog W 0 (fun _ => true) true Tryd.f3.params.toList args.toList ds p := hA0
  rw [Tryd.params3] at hA hval
  have hlt := DataW.TrodAll.lt hA0
  obtain ⟨v0, v1, v2, d0, d1, d2, p0, p1, p2, rfl, rfl, rfl, h0, h1, h2⟩ := trodAll_three hA
  obtain ⟨rfl, rfl⟩ := trodVars_none hV
  simp only [List.append_nil] at hW'
  have k0 := h0
  obtain ⟨⟨⟨l0⟩⟩, rfl, hd0, _, hs0⟩ := open_string Tryd.underlying9 (hval 0 _ _ rfl rfl) h0
  have k1 := h1
  obtain ⟨⟨⟨l1⟩⟩, rfl, hd1, _, hs1⟩ := open_string Tryd.underlying9 (hval 1 _ _ rfl rfl) h1
  have k2 := h2
  obtain ⟨S2, hS2⟩ := open_texts (hval 2 _ _ rfl rfl) h2
  have hk := of_decide_eq_true (hcond _ rfl)
  rw [hd0, hd1] at hk
  simp only [List.append_nil, Rows.uptoBulkAll, Rows.uptoBulk] at hk
  simp at hk
  have hb0 : l0.length ≤ 1048576 := by omega
  have hb1 : l1.length ≤ 1048576 := by omega
  refine (law17_origins l0 l1 v2 S2 W hE hb0 hb1 hS2).mono fun e W' ⟨he, hw⟩ => ?_
  subst he
  exact ⟨_, rfl, ⟨_, _, _, [], _, [], hW', trodAll_mk1 (shut_bool Tryd.underlying4 _), trodAll_mk3 (Below.trod laidOut (by kernel_rfl) (of_decide_eq_true (by kernel_rfl)) k0 hw (fun x hx => hlt x (by simp [hx]))) (Below.trod laidOut (by kernel_rfl) (of_decide_eq_true (by kernel_rfl)) k1 hw (fun x hx => hlt x (by simp [hx]))) (Below.trod laidOut (by kernel_rfl) (of_decide_eq_true (by kernel_rfl)) k2 hw (fun x hx => hlt x (by simp [hx]))), rfl, hw.frame _, fun h => by cases h⟩⟩

theorem groupsOrigins_row : Rows.GroupsOriginsUptoSaid :=
  OpenClaim.holds_of_cond 3 Tryd.f3 rfl rfl rfl rfl rfl rfl rfl ⟨rfl, rfl, rfl, rfl, rfl⟩ rfl rfl rfl rfl rfl (by kernel_rfl) Tryd.func3 (by kernel_rfl)
    (of_decide_eq_true (by kernel_rfl)) (by unfold Func.isWrapper; first | (rw [if_pos (by decide +kernel)]; kernel_rfl) | (rw [if_neg (by decide +kernel)]; exact ⟨rfl, rfl⟩))
    (fun os started H enc _ F => by rw [OpenClaim.pre_eq_preRow]; exact groupsOrigins_lifted os started H enc F)
theorem groupsOrigins_holds : Rows.GroupsOriginsUptoCardSaid :=
  Claim7.holds_tied_plain_at .later [] [.data, .data, .data, .data, .pinned] true (true, "e54b6c32095f8ddcbde889d880ef03e06f4eba451769e3723a42342acf95475c") false groupsOrigins_row (fun _ h => by cases h) (by kernel_rfl) (fun _ h => by cases h) groupsOriginsUpto_row_tie rfl ⟨rfl, rfl⟩ (by kernel_rfl) rfl
    (fun f fn hf hfn => by
      obtain rfl : f = 3 := Option.some.inj ((show Tryd.prog.funcNamed "glacis/glacislaw17.GroupsOrigins" = some 3 by kernel_rfl).symm.trans hf) |>.symm
      obtain rfl : fn = Tryd.f3 := (Option.some.inj (Tryd.func3.symm.trans hfn)).symm
      exact ⟨by kernel_rfl, fun j t ht => by
        rw [Tryd.params3] at ht
        have hm : t ∈ [9, 9, 22] := by simpa using Array.mem_of_getElem? ht
        have hall : ([9, 9, 22].all fun u => !Tryd.prog.wantsStandIn u) = true := by kernel_rfl
        exact (show Tryd.prog.wantsStandIn t = false by simpa using List.all_eq_true.1 hall t hm)⟩)
    (by kernel_rfl)
end Go.Proofs.YtplbkocokknnoaaDoor
