/- '==' on clusters; glacisref17: Same. -/
import Derived.Test.YtbafofldgkigmaaGreatDoorRef17d
import Derived.Test.YtbafofldgkigmaaGreatDoorFour
namespace Go.Proofs.YtbafofldgkigmaaGreatDoor
open Go.RowKit
section
variable (w : World) (a1 a2 b1 b2 : Int) (c1 c2 : List UInt8) (d1 d2 : Bool)
set_option maxHeartbeats 2000000 in
theorem run_eq_cluster : (Op.equalIn 10000 75 (.agg #[.int .i64 a1, .int .i64 b1, (.string ⟨(c1).toArray⟩), .bool d1]) (.agg #[.int .i64 a2, .int .i64 b2, (.string ⟨(c2).toArray⟩), .bool d2])).run Tryz.prog w = .ok ((a1 == a2) && (b1 == b2) && (c1 == c2) && (d1 == d2)) w := by
  rw [show (10000 : Nat) = 9999 + 1 from rfl, run_equalIn_agg w 9999 75 _ _ (by kernel_rfl) (by kernel_rfl)]
  simp only [Program.fieldsOf, Tryz.underlying75]
  go_simp
  by_cases q1 : a1 = a2
  case neg => simp [q1]
  by_cases q2 : b1 = b2
  case neg => simp [q2]
  by_cases q3 : c1 = c2
  case neg => simp [q3]
  by_cases q4 : d1 = d2 <;> simp [q1, q2, q3, q4]
/-- Are the cells of two clusters the same? -/
def eqCl (a1 b1 : Int) (c1 : List UInt8) (d1 : Bool) (a2 b2 : Int) (c2 : List UInt8) (d2 : Bool) : Bool := (a1 == a2) && (b1 == b2) && (c1 == c2) && (d1 == d2)
@[go_sem] theorem eqCl_self : eqCl a1 b1 c1 d1 a1 b1 c1 d1 = true := by simp [eqCl]
@[go_sem high] theorem run_eql_cluster : (binOp .eql 75 (.agg #[.int .i64 a1, .int .i64 b1, (.string ⟨(c1).toArray⟩), .bool d1]) (.agg #[.int .i64 a2, .int .i64 b2, (.string ⟨(c2).toArray⟩), .bool d2])).run Tryz.prog w = .ok (.bool (eqCl a1 b1 c1 d1 a2 b2 c2 d2)) w := by
  rw [run_eql_struct, run_eq_cluster]; rfl
@[go_sem high] theorem run_neq_cluster : (binOp .neq 75 (.agg #[.int .i64 a1, .int .i64 b1, (.string ⟨(c1).toArray⟩), .bool d1]) (.agg #[.int .i64 a2, .int .i64 b2, (.string ⟨(c2).toArray⟩), .bool d2])).run Tryz.prog w = .ok (.bool (!(eqCl a1 b1 c1 d1 a2 b2 c2 d2))) w := by
  rw [run_neq_struct, run_eq_cluster]; rfl
@[go_sem] theorem run_guard_cluster (op : BinOp) (x y : Operand) (xs ys : Array Value) : (eqGuard op 75 x y (.agg xs) (.agg ys)).run Tryz.prog w = .ok () w := run_eqGuard_agg w op 75 x y xs ys (by kernel_rfl)
end
attribute [local irreducible] Calls
set_option maxHeartbeats 4000000 in
set_option maxRecDepth 100000 in
theorem ref17_same (w : World) (v u : Value) (L : List Gl.Cluster) (hv : Slots w w.heap.size v 4 (L.map ccells)) (hu : Slots w w.heap.size u 4 (L.map ccells)) (hl : L.length ≤ 1000000) :
    Calls Tryz.prog 42 #[v, u] w (Ret w (.bool true)) := by
  obtain ⟨A, c, rfl, _⟩ := id hv
  obtain ⟨A2, c2, rfl, _⟩ := id hu
  rw [List.length_map] at *
  replace hv := Lib.hid hv
  replace hu := Lib.hid hu
  go_enter Tryz.func42, Tryz.ntmps42
  go_wp2_with fail
  go_loopw [5] (fun i wr => ∃ m : Nat, m ≤ L.length ∧ i = .int .i64 m ∧ Below w.heap.size w wr) (fun i _ => L.length - (intOf i).toNat)
  case atStart => exact ⟨0, Nat.zero_le _, rfl, Below.refl _ _⟩
  case round =>
    obtain ⟨m, hm, rfl, hb⟩ := hrel
    by_cases hmt : m < L.length
    · obtain ⟨sb, so, rfl, hsB, hcell⟩ := slice_cell hv.out m (by simpa using hmt)
      obtain ⟨tb, tq, rfl, htB, hcell2⟩ := slice_cell hu.out m (by simpa using hmt)
      have hx := fun (n : Nat) (hn : n < 4) => (hb.cell (p := ⟨sb, so + m * 4 + n, none⟩) hsB).trans (hcell n hn)
      have hy := fun (n : Nat) (hn : n < 4) => (hb.cell (p := ⟨tb, tq + m * 4 + n, none⟩) htB).trans (hcell2 n hn)
      simp only [List.getElem_map] at hx hy
      generalize L[m] = x at *
      obtain ⟨ci, cg, ck, cs⟩ := x
      have c0 := hx 0 (by decide)
      have c1 := hx 1 (by decide)
      have c2 := hx 2 (by decide)
      have c3 := hx 3 (by decide)
      have d0 := hy 0 (by decide)
      have d1 := hy 1 (by decide)
      have d2 := hy 2 (by decide)
      have d3 := hy 3 (by decide)
      simp only [Nat.add_zero, ccells, List.getElem?_toArray, List.getElem?_cons_zero, List.getElem?_cons_succ] at c0 c1 c2 c3 d0 d1 d2 d3
      clear hcell hcell2 hx hy
      go_upto_region 6 with fail
      go_quiet (fail)
      all_goals go_wp2_with fail
      go_roundw
      case rel => exact ⟨m + 1, by omega, by go_num, bw_⟩
      case measure => simp [intOf]; omega
    · go_wp2
      go_ret
      exact ⟨rfl, hb⟩
end Go.Proofs.YtbafofldgkigmaaGreatDoor
