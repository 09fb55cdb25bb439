/- '==' on URLs. -/
import Derived.Test.YthmgcnaoionmoaaDoorBase
import Derived.Laws.StructEq
namespace Go.Proofs.YthmgcnaoionmoaaDoor
open Go.RowKit
theorem beq_mk (a b : List UInt8) : ((⟨a.toArray⟩ : ByteArray).toList == (⟨b.toArray⟩ : ByteArray).toList) = (a == b) := by
  rw [ByteArray.toList_eq, ByteArray.toList_eq]
section
variable (w : World) (a1 b1 f1 h1 i1 a2 b2 f2 h2 i2 : List UInt8) (c1 c2 g1 g2 : Bool) (d1 d2 e1 e2 : Int)
set_option maxHeartbeats 2000000 in
theorem run_eq_url : (Op.equalIn 10000 27 (.agg #[(.string ⟨(a1).toArray⟩), (.string ⟨(b1).toArray⟩), .bool c1, .int .u32 d1, .int .i64 e1, (.string ⟨(f1).toArray⟩), .bool g1, (.string ⟨(h1).toArray⟩), (.string ⟨(i1).toArray⟩)]) (.agg #[(.string ⟨(a2).toArray⟩), (.string ⟨(b2).toArray⟩), .bool c2, .int .u32 d2, .int .i64 e2, (.string ⟨(f2).toArray⟩), .bool g2, (.string ⟨(h2).toArray⟩), (.string ⟨(i2).toArray⟩)])).run Tryd.prog w = .ok ((a1 == a2) && (b1 == b2) && (c1 == c2) && (d1 == d2) && (e1 == e2) && (f1 == f2) && (g1 == g2) && (h1 == h2) && (i1 == i2)) w := by
  rw [show (10000 : Nat) = 9999 + 1 from rfl, run_equalIn_agg w 9999 27 _ _ (by kernel_rfl) (by kernel_rfl)]
  simp only [Program.fieldsOf, Tryd.underlying27]
  have hh : ∀ (x y : Array Value), (Op.equalIn 9999 25 (.agg x) (.agg y)).run Tryd.prog w = (Op.eqFields 9998 x y ((Tryd.prog).fieldsOf 25).toList).run Tryd.prog w := fun x y => run_equalIn_agg w 9998 25 x y (by kernel_rfl) (by kernel_rfl)
  go_simp
  by_cases q1 : a1 = a2
  case neg => simp [q1]
  by_cases q2 : b1 = b2
  case neg => simp [q2]
  by_cases q3 : c1 = c2
  case neg => simp [q3]
  by_cases q4 : d1 = d2
  case neg => simp [q4]
  by_cases q5 : e1 = e2
  case neg => simp [q5]
  by_cases q6 : f1 = f2
  case neg => simp [q6]
  by_cases q7 : g1 = g2
  case neg => simp [q7]
  by_cases q8 : h1 = h2
  case neg => simp [q8]
  by_cases q9 : i1 = i2 <;> simp [q1, q2, q3, q4, q5, q6, q7, q8, q9]
@[go_sem] theorem run_eql_url : (binOp .eql 27 (.agg #[(.string ⟨(a1).toArray⟩), (.string ⟨(b1).toArray⟩), .bool c1, .int .u32 d1, .int .i64 e1, (.string ⟨(f1).toArray⟩), .bool g1, (.string ⟨(h1).toArray⟩), (.string ⟨(i1).toArray⟩)]) (.agg #[(.string ⟨(a2).toArray⟩), (.string ⟨(b2).toArray⟩), .bool c2, .int .u32 d2, .int .i64 e2, (.string ⟨(f2).toArray⟩), .bool g2, (.string ⟨(h2).toArray⟩), (.string ⟨(i2).toArray⟩)])).run Tryd.prog w = .ok (.bool ((a1 == a2) && (b1 == b2) && (c1 == c2) && (d1 == d2) && (e1 == e2) && (f1 == f2) && (g1 == g2) && (h1 == h2) && (i1 == i2))) w := by
  rw [run_eql_struct, run_eq_url]; rfl
@[go_sem] theorem run_neq_url : (binOp .neq 27 (.agg #[(.string ⟨(a1).toArray⟩), (.string ⟨(b1).toArray⟩), .bool c1, .int .u32 d1, .int .i64 e1, (.string ⟨(f1).toArray⟩), .bool g1, (.string ⟨(h1).toArray⟩), (.string ⟨(i1).toArray⟩)]) (.agg #[(.string ⟨(a2).toArray⟩), (.string ⟨(b2).toArray⟩), .bool c2, .int .u32 d2, .int .i64 e2, (.string ⟨(f2).toArray⟩), .bool g2, (.string ⟨(h2).toArray⟩), (.string ⟨(i2).toArray⟩)])).run Tryd.prog w = .ok (.bool (!((a1 == a2) && (b1 == b2) && (c1 == c2) && (d1 == d2) && (e1 == e2) && (f1 == f2) && (g1 == g2) && (h1 == h2) && (i1 == i2)))) w := by
  rw [run_neq_struct, run_eq_url]; rfl
@[go_sem] theorem run_guard_url (op : BinOp) (x y : Operand) (xs ys : Array Value) : (eqGuard op 27 x y (.agg xs) (.agg ys)).run Tryd.prog w = .ok () w := run_eqGuard_agg w op 27 x y xs ys (by kernel_rfl)
end
end Go.Proofs.YthmgcnaoionmoaaDoor
