/- '==' on origins. -/
import Derived.Test.YthmgcnaoionmoaaDoorEqs
namespace Go.Proofs.YthmgcnaoionmoaaDoor
open Go.RowKit
section
variable (w : World) (a1 a2 e1 e2 : Bool) (b1 b2 f1 f2 g1 g2 : Int) (c1 c2 d1 d2 : List UInt8)
set_option maxHeartbeats 2000000 in
theorem run_eq_origin : (Op.equalIn 10000 40 (.agg #[.bool a1, .int .i64 b1, (.string ⟨(c1).toArray⟩), (.string ⟨(d1).toArray⟩), .bool e1, .int .u32 f1, .int .i64 g1]) (.agg #[.bool a2, .int .i64 b2, (.string ⟨(c2).toArray⟩), (.string ⟨(d2).toArray⟩), .bool e2, .int .u32 f2, .int .i64 g2])).run Tryd.prog w = .ok ((a1 == a2) && (b1 == b2) && (c1 == c2) && (d1 == d2) && (e1 == e2) && (f1 == f2) && (g1 == g2)) w := by
  rw [show (10000 : Nat) = 9999 + 1 from rfl, run_equalIn_agg w 9999 40 _ _ (by kernel_rfl) (by kernel_rfl)]
  simp only [Program.fieldsOf, Tryd.underlying40]
  have hh : ∀ (x y : Array Value), (Op.equalIn 9999 25 (.agg x) (.agg y)).run Tryd.prog w = (Op.eqFields 9998 x y ((Tryd.prog).fieldsOf 25).toList).run Tryd.prog w := fun x y => run_equalIn_agg w 9998 25 x y (by kernel_rfl) (by kernel_rfl)
  go_simp
  by_cases q1 : a1 = a2
  case neg => simp [q1]
  by_cases q2 : b1 = b2
  case neg => simp [q2]
  by_cases q3 : c1 = c2
  case neg => simp [q3]
  by_cases q4 : d1 = d2
  case neg => simp [q4]
  by_cases q5 : e1 = e2
  case neg => simp [q5]
  by_cases q6 : f1 = f2
  case neg => simp [q6]
  by_cases q7 : g1 = g2 <;> simp [q1, q2, q3, q4, q5, q6, q7]
/-- Are the cells of two origins the same? -/
def eqO (a1 : Bool) (b1 : Int) (c1 d1 : List UInt8) (e1 : Bool) (f1 g1 : Int) (a2 : Bool) (b2 : Int) (c2 d2 : List UInt8) (e2 : Bool) (f2 g2 : Int) : Bool := (a1 == a2) && (b1 == b2) && (c1 == c2) && (d1 == d2) && (e1 == e2) && (f1 == f2) && (g1 == g2)
@[go_sem] theorem eqO_self : eqO a1 b1 c1 d1 e1 f1 g1 a1 b1 c1 d1 e1 f1 g1 = true := by simp [eqO]
@[go_sem high] theorem run_eql_origin : (binOp .eql 40 (.agg #[.bool a1, .int .i64 b1, (.string ⟨(c1).toArray⟩), (.string ⟨(d1).toArray⟩), .bool e1, .int .u32 f1, .int .i64 g1]) (.agg #[.bool a2, .int .i64 b2, (.string ⟨(c2).toArray⟩), (.string ⟨(d2).toArray⟩), .bool e2, .int .u32 f2, .int .i64 g2])).run Tryd.prog w = .ok (.bool (eqO a1 b1 c1 d1 e1 f1 g1 a2 b2 c2 d2 e2 f2 g2)) w := by
  rw [run_eql_struct, run_eq_origin]; rfl
@[go_sem high] theorem run_neq_origin : (binOp .neq 40 (.agg #[.bool a1, .int .i64 b1, (.string ⟨(c1).toArray⟩), (.string ⟨(d1).toArray⟩), .bool e1, .int .u32 f1, .int .i64 g1]) (.agg #[.bool a2, .int .i64 b2, (.string ⟨(c2).toArray⟩), (.string ⟨(d2).toArray⟩), .bool e2, .int .u32 f2, .int .i64 g2])).run Tryd.prog w = .ok (.bool (!(eqO a1 b1 c1 d1 e1 f1 g1 a2 b2 c2 d2 e2 f2 g2))) w := by
  rw [run_neq_struct, run_eq_origin]; rfl
@[go_sem] theorem run_guard_origin (op : BinOp) (x y : Operand) (xs ys : Array Value) : (eqGuard op 40 x y (.agg xs) (.agg ys)).run Tryd.prog w = .ok () w := run_eqGuard_agg w op 40 x y xs ys (by kernel_rfl)
set_option maxHeartbeats 2000000 in
theorem run_eq_host (x1 x2 : List UInt8) : (Op.equalIn 10000 25 (.agg #[.string ⟨x1.toArray⟩, .bool e1, .int .u32 f1]) (.agg #[.string ⟨x2.toArray⟩, .bool e2, .int .u32 f2])).run Tryd.prog w = .ok ((x1 == x2) && (e1 == e2) && (f1 == f2)) w := by
  rw [show (10000 : Nat) = 9999 + 1 from rfl, run_equalIn_agg w 9999 25 _ _ (by kernel_rfl) (by kernel_rfl)]
  simp only [Program.fieldsOf, Tryd.underlying25]
  go_simp
  by_cases q1 : x1 = x2
  case neg => simp [q1]
  by_cases q5 : e1 = e2
  case neg => simp [q5]
  by_cases q6 : f1 = f2 <;> simp [q1, q5, q6]
/-- Are the cells of two hosts the same? -/
def eqH (x1 : List UInt8) (e1 : Bool) (f1 : Int) (x2 : List UInt8) (e2 : Bool) (f2 : Int) : Bool := (x1 == x2) && (e1 == e2) && (f1 == f2)
@[go_sem] theorem eqH_self (x1 : List UInt8) : eqH x1 e1 f1 x1 e1 f1 = true := by simp [eqH]
@[go_sem high] theorem run_eql_host (x1 x2 : List UInt8) : (binOp .eql 25 (.agg #[.string ⟨x1.toArray⟩, .bool e1, .int .u32 f1]) (.agg #[.string ⟨x2.toArray⟩, .bool e2, .int .u32 f2])).run Tryd.prog w = .ok (.bool (eqH x1 e1 f1 x2 e2 f2)) w := by
  rw [run_eql_struct, run_eq_host]; rfl
@[go_sem] theorem run_guard_host (op : BinOp) (x y : Operand) (xs ys : Array Value) : (eqGuard op 25 x y (.agg xs) (.agg ys)).run Tryd.prog w = .ok () w := run_eqGuard_agg w op 25 x y xs ys (by kernel_rfl)
end
end Go.Proofs.YthmgcnaoionmoaaDoor
