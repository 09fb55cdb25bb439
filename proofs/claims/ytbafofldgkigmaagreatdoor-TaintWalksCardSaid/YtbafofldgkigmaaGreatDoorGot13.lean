/- Answers of a walk compared; what small hops allow. -/
import Derived.Test.YtbafofldgkigmaaGreatDoorAwake13
import Derived.Test.YtbafofldgkigmaaGreatDoorRefOwn13
namespace Go.Proofs.YtbafofldgkigmaaGreatDoor
open Go.RowKit
attribute [local irreducible] Calls
section
variable (w : World) (a1 b1 : Int) (a2 a3 b2 b3 : Bool)
set_option maxHeartbeats 2000000 in
theorem run_eq_got : (Op.equalIn 10000 58 (.agg #[.int .i64 a1, .bool a2, .bool a3]) (.agg #[.int .i64 b1, .bool b2, .bool b3])).run Tryz.prog w = .ok ((a1 == b1) && (a2 == b2) && (a3 == b3)) w := by
  rw [show (10000 : Nat) = 9999 + 1 from rfl, run_equalIn_agg w 9999 58 _ _ (by kernel_rfl) (by kernel_rfl)]
  simp only [Program.fieldsOf, Tryz.underlying58]
  go_simp
  by_cases h : a1 = b1
  · subst h
    cases a2 <;> cases b2 <;> cases a3 <;> cases b3 <;> simp
  · have h2 : (a1 == b1) = false := by rw [beq_eq_false_iff_ne]; exact h
    simp [h2, h]
/-- Are two answers the same? -/
def eqF (a1 b1 : Int) (a2 a3 b2 b3 : Bool) : Bool := (a1 == b1) && (a2 == b2) && (a3 == b3)
@[go_sem] theorem eqF_self : eqF a1 a1 a2 a3 a2 a3 = true := by simp [eqF]
@[go_sem high] theorem run_eql_got : (binOp .eql 58 (.agg #[.int .i64 a1, .bool a2, .bool a3]) (.agg #[.int .i64 b1, .bool b2, .bool b3])).run Tryz.prog w = .ok (.bool (eqF a1 b1 a2 a3 b2 b3)) w := by
  rw [run_eql_struct, run_eq_got]; rfl
@[go_sem] theorem run_guard_got (op : BinOp) (x y : Operand) (xs ys : Array Value) : (eqGuard op 58 x y (.agg xs) (.agg ys)).run Tryz.prog w = .ok () w := run_eqGuard_agg w op 58 x y xs ys (by kernel_rfl)
end
structure OReq (o : Gl.Origin) : Prop where
  addr : o.host.addr < 4294967296
  port : -9223372036854775808 ≤ o.port ∧ o.port ≤ 9223372036854775807
theorem small13 {o : Gl.Origin} {L : List Gl.Hop} (h : smallHops o L = true) (ho : OReq o) : OWide o ∧ (∀ h ∈ L, (∀ x ∈ h.head, HeadFit x) ∧ h.head.length ≤ 1000000 ∧ h.url.rest.length ≤ 3000) ∧ L.length ≤ 23 := by
  obtain ⟨a1, a2, a3, a4⟩ := smallHops_out h
  refine ⟨⟨⟨ho.addr, by omega⟩, by omega, ho.port⟩, fun x hx => ?_, a1⟩
  obtain ⟨b1, b2, b3, _⟩ := hop_out (a4 x hx)
  obtain ⟨c1, c2⟩ := few8_out b1
  refine ⟨fun y hy => ⟨?_, ?_⟩, by omega, b3⟩
  · have := (c2 y hy).1; omega
  · have := (c2 y hy).2; omega
end Go.Proofs.YtbafofldgkigmaaGreatDoor
