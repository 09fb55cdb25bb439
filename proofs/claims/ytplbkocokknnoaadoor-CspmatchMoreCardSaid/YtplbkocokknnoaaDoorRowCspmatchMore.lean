/- The law CspmatchMore: its row and its card. -/
import Derived.Test.YtplbkocokknnoaaDoorRows0
import Derived.Test.YtplbkocokknnoaaDoorLaw11More
import Derived.Test.YtplbkocokknnoaaDoorRows4
import Derived.Test.YtplbkocokknnoaaDoorRows11
import Derived.Test.YtplbkocokknnoaaDoorTrods
namespace Go.Proofs.YtplbkocokknnoaaDoor
open Go.ChangeShapes Go.WideShapes Go.ChangeAt Go.RowKit
open Go.ChangeMaps (open_string shut_string)

set_option maxRecDepth 100000 in
theorem cspmatchMore_lifted (os : Os) (started : os.Started) (H : Type) (enc : TypeId × Value → H) :
    ReturnsInHanded {} Tryd.checked os 4 .any (fun w args => (Rows.cspmatchMoreSpec.pre enc Tryd.prog Tryd.f4 Rows.cspmatchMoreRow.domain false w args ∧ laidMetH Tryd.prog Rows.cspmatchMoreRow.laid w) ∧ sizedMet enc Tryd.prog Tryd.f4 (OpenSpec.ofChange Rows.cspmatchMoreSpec) false w args)
      (Rows.cspmatchMoreSpec.post enc Tryd.prog Tryd.f4 false true false false) := by
  refine returns_of started (by kernel_rfl) Tryd.func4
    (ChangeSpec.witness_shaped (enc := enc) (C := Tryd.checked) (os := os) (X := fun w _ => laidMetH Tryd.prog Rows.cspmatchMoreRow.laid w) false (World.laidAll Tryd.prog os Rows.cspmatchMoreRow.laid) #[(.agg #[.bool false, .slice none 0 0, .bool false, .slice none 0 0]), (.agg #[.bool false, .int .i64 0, .string ⟨#[]⟩, .string ⟨#[]⟩, .bool false, .int .u32 0, .int .i64 0]), (.slice none 0 0), (.string ⟨#[]⟩), (.agg #[.bool false, .int .i64 0, .string ⟨#[]⟩, .string ⟨#[]⟩, .bool false, .int .u32 0, .int .i64 0])] 8 (World.laidAll_os _ _ _)
      (World.shaped_of_ZipB (by kernel_rfl) (by kernel_rfl)) (by kernel_rfl) (by kernel_rfl) (by kernel_rfl)
      (by rw [MakeChecks.laidMetH_plain _ _ _ (by kernel_rfl)]; exact laidMet_laidAll _ (by kernel_rfl) (by kernel_rfl))) ?_
  intro W base args ds gs before hval0 hW hL hS
  have hE : Env W := env_of hS hL
  have hval : ∀ (j : Nat) t v, Tryd.f4.params[j]? = some t → args[j]? = some v → Value.okWide Tryd.prog W .any base t v := hval0
  have hW' := hW
  obtain ⟨p, q, hA0, hV, rfl, _, _⟩ := hW
  have hA : DataW.TrodAll enc Tryd.prog W 0 (fun _ => true) true Tryd.f4.params.toList args.toList ds p := hA0
  rw [Tryd.params4] at hA hval
  have hlt := DataW.TrodAll.lt hA0
  obtain ⟨v0, v1, v2, v3, v4, d0, d1, d2, d3, d4, p0, p1, p2, p3, p4, rfl, rfl, rfl, h0, h1, h2, h3, h4⟩ := trodAll_five hA
  obtain ⟨rfl, rfl⟩ := trodVars_none hV
  simp only [List.append_nil] at hW'
  have k0 := h0
  obtain ⟨has0, box0, va0, vx0, L0, rfl, hL0, hx0⟩ := open_policy (hval 0 _ _ rfl rfl) h0
  have k1 := h1
  obtain ⟨o1, rfl, ho1⟩ := open_origin (hval 1 _ _ rfl rfl) h1
  have k2 := h2
  obtain ⟨A2, hA2, hAf2⟩ := open_origs (hval 2 _ _ rfl rfl) h2
  have k3 := h3
  obtain ⟨⟨⟨l3⟩⟩, rfl, _, _, hs3⟩ := open_string Tryd.underlying9 (hval 3 _ _ rfl rfl) h3
  have k4 := h4
  obtain ⟨o4, rfl, ho4⟩ := open_origin (hval 4 _ _ rfl rfl) h4
  refine (law11_more has0 box0 va0 vx0 v2 L0 A2 l3 o4 o1 W hE hL0 hA2 (fun a ha => (hAf2 a ha).addr) ho4.addr hx0).mono fun e W' ⟨he, hw⟩ => ?_
  subst he
  exact ⟨_, rfl, ⟨_, _, _, [], _, [], hW', trodAll_mk1 (shut_bool Tryd.underlying4 _), trodAll_mk5 (Below.trod laidOut (by kernel_rfl) (of_decide_eq_true (by kernel_rfl)) k0 hw (fun x hx => hlt x (by simp [hx]))) (Below.trod laidOut (by kernel_rfl) (of_decide_eq_true (by kernel_rfl)) k1 hw (fun x hx => hlt x (by simp [hx]))) (Below.trod laidOut (by kernel_rfl) (of_decide_eq_true (by kernel_rfl)) k2 hw (fun x hx => hlt x (by simp [hx]))) (Below.trod laidOut (by kernel_rfl) (of_decide_eq_true (by kernel_rfl)) k3 hw (fun x hx => hlt x (by simp [hx]))) (Below.trod laidOut (by kernel_rfl) (of_decide_eq_true (by kernel_rfl)) k4 hw (fun x hx => hlt x (by simp [hx]))), rfl, hw.frame _, fun h => by cases h⟩⟩

theorem cspmatchMore_row : Rows.CspmatchMoreSaid :=
  OpenClaim.holds_of_wide 4 Tryd.f4 rfl rfl rfl rfl rfl rfl rfl ⟨rfl, rfl, rfl, rfl, rfl⟩ rfl rfl rfl rfl rfl (by kernel_rfl) Tryd.func4 (by kernel_rfl)
    (of_decide_eq_true (by kernel_rfl)) (by unfold Func.isWrapper; first | (rw [if_pos (by decide +kernel)]; kernel_rfl) | (rw [if_neg (by decide +kernel)]; exact ⟨rfl, rfl⟩))
    (fun os started H enc _ => cspmatchMore_lifted os started H enc)
theorem cspmatchMore_holds : Rows.CspmatchMoreCardSaid :=
  Claim7.holds_tied_plain_at .later [] [.data, .data, .data, .data, .pinned] true (true, "e54b6c32095f8ddcbde889d880ef03e06f4eba451769e3723a42342acf95475c") false cspmatchMore_row (fun _ h => by cases h) (by kernel_rfl) (fun _ h => by cases h) cspmatchMore_row_tie rfl ⟨rfl, rfl⟩ (by kernel_rfl) rfl
    (fun f fn hf hfn => by
      obtain rfl : f = 4 := Option.some.inj ((show Tryd.prog.funcNamed "glacis/glacislaw11.CspmatchMore" = some 4 by kernel_rfl).symm.trans hf) |>.symm
      obtain rfl : fn = Tryd.f4 := (Option.some.inj (Tryd.func4.symm.trans hfn)).symm
      exact ⟨by kernel_rfl, fun j t ht => by
        rw [Tryd.params4] at ht
        have hm : t ∈ [50, 35, 51, 9, 35] := by simpa using Array.mem_of_getElem? ht
        have hall : ([50, 35, 51, 9, 35].all fun u => !Tryd.prog.wantsStandIn u) = true := by kernel_rfl
        exact (show Tryd.prog.wantsStandIn t = false by simpa using List.all_eq_true.1 hall t hm)⟩)
    (by kernel_rfl)
end Go.Proofs.YtplbkocokknnoaaDoor
