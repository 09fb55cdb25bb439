/- Gates compared. -/
import Derived.Test.YtbafofldgkigmaaGreatDoorOne
namespace Go.Proofs.YtbafofldgkigmaaGreatDoor
open Go.RowKit
section
variable (w : World) (a1 a2 a3 b1 b2 b3 : Bool)
set_option maxHeartbeats 2000000 in
theorem run_eq_gate : (Op.equalIn 10000 41 (.agg #[.bool a1, .bool a2, .bool a3]) (.agg #[.bool b1, .bool b2, .bool b3])).run Tryz.prog w = .ok ((a1 == b1) && (a2 == b2) && (a3 == b3)) w := by
  rw [show (10000 : Nat) = 9999 + 1 from rfl, run_equalIn_agg w 9999 41 _ _ (by kernel_rfl) (by kernel_rfl)]
  simp only [Program.fieldsOf, Tryz.underlying41]
  go_simp
  cases a1 <;> cases b1 <;> cases a2 <;> cases b2 <;> cases a3 <;> cases b3 <;> rfl
/-- Are the cells of two gates the same? -/
def eqG (a1 a2 a3 b1 b2 b3 : Bool) : Bool := (a1 == b1) && (a2 == b2) && (a3 == b3)
@[go_sem] theorem eqG_self : eqG a1 a2 a3 a1 a2 a3 = true := by simp [eqG]
@[go_sem high] theorem run_eql_gate : (binOp .eql 41 (.agg #[.bool a1, .bool a2, .bool a3]) (.agg #[.bool b1, .bool b2, .bool b3])).run Tryz.prog w = .ok (.bool (eqG a1 a2 a3 b1 b2 b3)) w := by
  rw [run_eql_struct, run_eq_gate]; rfl
@[go_sem] theorem run_guard_gate (op : BinOp) (x y : Operand) (xs ys : Array Value) : (eqGuard op 41 x y (.agg xs) (.agg ys)).run Tryz.prog w = .ok () w := run_eqGuard_agg w op 41 x y xs ys (by kernel_rfl)
end
end Go.Proofs.YtbafofldgkigmaaGreatDoor
