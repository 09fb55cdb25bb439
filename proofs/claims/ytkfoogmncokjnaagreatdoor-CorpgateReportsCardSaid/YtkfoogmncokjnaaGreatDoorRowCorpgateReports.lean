/- The law CorpgateReports: its row and its card. -/
import Derived.Test.YtkfoogmncokjnaaGreatDoorRows0
import Derived.Test.YtkfoogmncokjnaaGreatDoorLaw14R
import Derived.Test.YtkfoogmncokjnaaGreatDoorRows4
import Derived.Test.YtkfoogmncokjnaaGreatDoorRows14
namespace Go.Proofs.YtkfoogmncokjnaaGreatDoor
open Go.ChangeShapes Go.WideShapes Go.ChangeAt Go.RowKit
open Go.ChangeMaps (open_string shut_string)

set_option maxRecDepth 100000 in
theorem corpgateReports_lifted (os : Os) (started : os.Started) (H : Type) (enc : TypeId × Value → H) :
    ReturnsInHanded {} Tryz.checked os 10 .any (fun w args => (Rows.corpgateReportsSpec.pre enc Tryz.prog Tryz.f10 Rows.corpgateReportsRow.domain false w args ∧ laidMetH Tryz.prog Rows.corpgateReportsRow.laid w) ∧ sizedMet enc Tryz.prog Tryz.f10 (OpenSpec.ofChange Rows.corpgateReportsSpec) false w args)
      (Rows.corpgateReportsSpec.post enc Tryz.prog Tryz.f10 false true false false) := by
  refine returns_of started (by kernel_rfl) Tryz.func10
    (ChangeSpec.witness_shaped (enc := enc) (C := Tryz.checked) (os := os) (X := fun w _ => laidMetH Tryz.prog Rows.corpgateReportsRow.laid w) false (World.laidAll Tryz.prog os Rows.corpgateReportsRow.laid) #[(.agg #[.bool false, .int .i64 0, .string ⟨#[]⟩, .string ⟨#[]⟩, .bool false, .int .u32 0, .int .i64 0]), (.agg #[.int .i64 0, .string ⟨#[]⟩, .int .i64 0, .string ⟨#[]⟩]), (.int .i64 0), (.bool false), (.agg #[.string ⟨#[]⟩, .string ⟨#[]⟩, .bool false, .int .u32 0, .int .i64 0, .string ⟨#[]⟩, .bool false, .string ⟨#[]⟩, .string ⟨#[]⟩, .slice none 0 0]), (.bool false), (.slice none 0 0)] 8 (World.laidAll_os _ _ _)
      (World.shaped_of_ZipB (by kernel_rfl) (by kernel_rfl)) (by kernel_rfl) (by kernel_rfl) (by kernel_rfl)
      (by rw [MakeChecks.laidMetH_plain _ _ _ (by kernel_rfl)]; exact laidMet_laidAll _ (by kernel_rfl) (by kernel_rfl))) ?_
  intro W base args ds gs before hval0 hW hL hS
  have hE : Env W := env_of hS hL
  have hval : ∀ (j : Nat) t v, Tryz.f10.params[j]? = some t → args[j]? = some v → Value.okWide Tryz.prog W .any base t v := hval0
  have hW' := hW
  obtain ⟨p, q, hA0, hV, rfl, _, _⟩ := hW
  have hA : DataW.TrodAll enc Tryz.prog W 0 (fun _ => true) true Tryz.f10.params.toList args.toList ds p := hA0
  rw [Tryz.params10] at hA hval
  have hlt := DataW.TrodAll.lt hA0
  obtain ⟨v0, v1, v2, v3, v4, v5, v6, d0, d1, d2, d3, d4, d5, d6, p0, p1, p2, p3, p4, p5, p6, rfl, rfl, rfl, h0, h1, h2, h3, h4, h5, h6⟩ := trodAll_seven hA
  obtain ⟨rfl, rfl⟩ := trodVars_none hV
  simp only [List.append_nil] at hW'
  have k0 := h0
  obtain ⟨o0, rfl, ho0⟩ := open_origin (hval 0 _ _ rfl rfl) h0
  have k1 := h1
  obtain ⟨ev1, er1, et1, eu1, rfl⟩ := open_embedder (hval 1 _ _ rfl rfl) h1
  have k2 := h2
  obtain ⟨n2, rfl, _, _, hn2⟩ := open_int Tryz.underlying3 (hval 2 _ _ rfl rfl) h2
  have k3 := h3
  obtain ⟨b3, rfl, _, _⟩ := open_bool Tryz.underlying4 (hval 3 _ _ rfl rfl) h3
  have k4 := h4
  obtain ⟨u4, vh4, hl4, rfl, hH4, hu4, hub4⟩ := open_hop (hval 4 _ _ rfl rfl) h4
  have k5 := h5
  obtain ⟨b5, rfl, _, _⟩ := open_bool Tryz.underlying4 (hval 5 _ _ rfl rfl) h5
  have k6 := h6
  obtain ⟨S6, hS6⟩ := open_texts (hval 6 _ _ rfl rfl) h6
  refine (law14_reports o0 ev1 er1 et1 eu1 n2 b3 u4 vh4 hl4 b5 v6 S6 W hE hH4 hu4.addr hS6 ho0.addr).mono fun e W' ⟨he, hw⟩ => ?_
  subst he
  exact ⟨_, rfl, ⟨_, _, _, [], _, [], hW', trodAll_mk1 (shut_bool Tryz.underlying4 _), trodAll_mk7 (Below.trod laidOut (by kernel_rfl) (of_decide_eq_true (by kernel_rfl)) k0 hw (fun x hx => hlt x (by simp [hx]))) (Below.trod laidOut (by kernel_rfl) (of_decide_eq_true (by kernel_rfl)) k1 hw (fun x hx => hlt x (by simp [hx]))) (Below.trod laidOut (by kernel_rfl) (of_decide_eq_true (by kernel_rfl)) k2 hw (fun x hx => hlt x (by simp [hx]))) (Below.trod laidOut (by kernel_rfl) (of_decide_eq_true (by kernel_rfl)) k3 hw (fun x hx => hlt x (by simp [hx]))) (Below.trod laidOut (by kernel_rfl) (of_decide_eq_true (by kernel_rfl)) k4 hw (fun x hx => hlt x (by simp [hx]))) (Below.trod laidOut (by kernel_rfl) (of_decide_eq_true (by kernel_rfl)) k5 hw (fun x hx => hlt x (by simp [hx]))) (Below.trod laidOut (by kernel_rfl) (of_decide_eq_true (by kernel_rfl)) k6 hw (fun x hx => hlt x (by simp [hx]))), rfl, hw.frame _, fun h => by cases h⟩⟩

theorem corpgateReports_row : Rows.CorpgateReportsSaid :=
  OpenClaim.holds_of_wide 10 Tryz.f10 rfl rfl rfl rfl rfl rfl rfl ⟨rfl, rfl, rfl, rfl, rfl⟩ rfl rfl rfl rfl rfl (by kernel_rfl) Tryz.func10 (by kernel_rfl)
    (of_decide_eq_true (by kernel_rfl)) (by unfold Func.isWrapper; first | (rw [if_pos (by decide +kernel)]; kernel_rfl) | (rw [if_neg (by decide +kernel)]; exact ⟨rfl, rfl⟩))
    (fun os started H enc _ => corpgateReports_lifted os started H enc)
theorem corpgateReports_holds : Rows.CorpgateReportsCardSaid :=
  Claim7.holds_tied_plain_at .later [] [.data, .data, .data, .data, .pinned] true (true, "fb855555a396ef97fda0ca07147e7881c82f2938010235ed9f2e338e22cba233") false corpgateReports_row (fun _ h => by cases h) (by kernel_rfl) (fun _ h => by cases h) corpgateReports_row_tie rfl ⟨rfl, rfl⟩ (by kernel_rfl) rfl
    (fun f fn hf hfn => by
      obtain rfl : f = 10 := Option.some.inj ((show Tryz.prog.funcNamed "glacis/glacislaw14.CorpgateReports" = some 10 by kernel_rfl).symm.trans hf) |>.symm
      obtain rfl : fn = Tryz.f10 := (Option.some.inj (Tryz.func10.symm.trans hfn)).symm
      exact ⟨by kernel_rfl, fun j t ht => by
        rw [Tryz.params10] at ht
        have hm : t ∈ [31, 24, 3, 4, 51, 4, 43] := by simpa using Array.mem_of_getElem? ht
        have hall : ([31, 24, 3, 4, 51, 4, 43].all fun u => !Tryz.prog.wantsStandIn u) = true := by kernel_rfl
        exact (show Tryz.prog.wantsStandIn t = false by simpa using List.all_eq_true.1 hall t hm)⟩)
    (by kernel_rfl)
end Go.Proofs.YtkfoogmncokjnaaGreatDoor
