/- Two entries, two regions: the same? -/
import Derived.Test.YtabjdjkkpbkpfaaHT
import Derived.Test.YtabjdjkkpbkpfaaWEqStruct
import Derived.Test.YtabjdjkkpbkpfaaProg
import Derived.RowKit3
namespace Go.Proofs.Ytabjdjkkpbkpfaa.Pk
open Go Go.RowKit Go.Proofs.Ytabjdjkkpbkpfaa.HL Go.Proofs.Ytabjdjkkpbkpfaa.Ev Go.Proofs.YtabjdjkkpbkpfaaW.PrintWords 
set_option linter.unusedVariables false
set_option linter.unusedSimpArgs false
theorem eqA30 (d : Nat) (w : World) (x0 y0 : Int) (x1 y1 : Int) (x2 y2 : Bool) (x3 y3 : Bool) : (Op.equalIn (d + 2) 30 (.agg #[.int .i64 x0, .int .i64 x1, .bool x2, .bool x3]) (.agg #[.int .i64 y0, .int .i64 y1, .bool y2, .bool y3])).run Go.Proofs.Try.prog w = .ok (x0 == y0 && (x1 == y1 && (x2 == y2 && (x3 == y3)))) w := by
  refine eqA_of Try.underlying30 (by kernel_rfl) ?_
  refine eqf_cons (by rfl) (by go_simp; rfl) (by go_simp; rfl) (by go_simp) ?_
  refine eqf_cons (by rfl) (by go_simp; rfl) (by go_simp; rfl) (by go_simp) ?_
  refine eqf_cons (by rfl) (by go_simp; rfl) (by go_simp; rfl) (by go_simp) ?_
  exact eqf_last (by rfl) (by go_simp; rfl) (by go_simp; rfl) (by go_simp)
theorem Bin.eqlE (x0 y0 : Int) (x1 y1 : Int) (x2 y2 : Bool) (x3 y3 : Bool) : Bin Go.Proofs.Try.prog .eql 30 (.agg #[.int .i64 x0, .int .i64 x1, .bool x2, .bool x3]) (.agg #[.int .i64 y0, .int .i64 y1, .bool y2, .bool y3]) (.bool ((x0 == y0 && (x1 == y1 && (x2 == y2 && (x3 == y3)))))) := fun x y w => by
  have h : (Op.equal 30 (.agg #[.int .i64 x0, .int .i64 x1, .bool x2, .bool x3]) (.agg #[.int .i64 y0, .int .i64 y1, .bool y2, .bool y3])).run Go.Proofs.Try.prog w = .ok (x0 == y0 && (x1 == y1 && (x2 == y2 && (x3 == y3)))) w := eqA30 9998 w x0 y0 x1 y1 x2 y2 x3 y3
  constructor
  · unfold eqGuard; go_simp
  · simp only [binOp]; simp [h]
theorem Bin.neqE (x0 y0 : Int) (x1 y1 : Int) (x2 y2 : Bool) (x3 y3 : Bool) : Bin Go.Proofs.Try.prog .neq 30 (.agg #[.int .i64 x0, .int .i64 x1, .bool x2, .bool x3]) (.agg #[.int .i64 y0, .int .i64 y1, .bool y2, .bool y3]) (.bool (!(x0 == y0 && (x1 == y1 && (x2 == y2 && (x3 == y3)))))) := fun x y w => by
  have h : (Op.equal 30 (.agg #[.int .i64 x0, .int .i64 x1, .bool x2, .bool x3]) (.agg #[.int .i64 y0, .int .i64 y1, .bool y2, .bool y3])).run Go.Proofs.Try.prog w = .ok (x0 == y0 && (x1 == y1 && (x2 == y2 && (x3 == y3)))) w := eqA30 9998 w x0 y0 x1 y1 x2 y2 x3 y3
  constructor
  · unfold eqGuard; go_simp
  · simp only [binOp]; simp [h]
theorem eqA28 (d : Nat) (w : World) (x0 y0 : Int) (x1 y1 : Int) (x2 y2 : Int) (x3 y3 : Int) (x4 y4 : Int) (x5 y5 : Bool) : (Op.equalIn (d + 2) 28 (.agg #[.int .i64 x0, .int .i64 x1, .int .i64 x2, .int .i64 x3, .int .i64 x4, .bool x5]) (.agg #[.int .i64 y0, .int .i64 y1, .int .i64 y2, .int .i64 y3, .int .i64 y4, .bool y5])).run Go.Proofs.Try.prog w = .ok (x0 == y0 && (x1 == y1 && (x2 == y2 && (x3 == y3 && (x4 == y4 && (x5 == y5)))))) w := by
  refine eqA_of Try.underlying28 (by kernel_rfl) ?_
  refine eqf_cons (by rfl) (by go_simp; rfl) (by go_simp; rfl) (by go_simp) ?_
  refine eqf_cons (by rfl) (by go_simp; rfl) (by go_simp; rfl) (by go_simp) ?_
  refine eqf_cons (by rfl) (by go_simp; rfl) (by go_simp; rfl) (by go_simp) ?_
  refine eqf_cons (by rfl) (by go_simp; rfl) (by go_simp; rfl) (by go_simp) ?_
  refine eqf_cons (by rfl) (by go_simp; rfl) (by go_simp; rfl) (by go_simp) ?_
  exact eqf_last (by rfl) (by go_simp; rfl) (by go_simp; rfl) (by go_simp)
theorem Bin.neqG (x0 y0 : Int) (x1 y1 : Int) (x2 y2 : Int) (x3 y3 : Int) (x4 y4 : Int) (x5 y5 : Bool) : Bin Go.Proofs.Try.prog .neq 28 (.agg #[.int .i64 x0, .int .i64 x1, .int .i64 x2, .int .i64 x3, .int .i64 x4, .bool x5]) (.agg #[.int .i64 y0, .int .i64 y1, .int .i64 y2, .int .i64 y3, .int .i64 y4, .bool y5]) (.bool (!(x0 == y0 && (x1 == y1 && (x2 == y2 && (x3 == y3 && (x4 == y4 && (x5 == y5)))))))) := fun x y w => by
  have h : (Op.equal 28 (.agg #[.int .i64 x0, .int .i64 x1, .int .i64 x2, .int .i64 x3, .int .i64 x4, .bool x5]) (.agg #[.int .i64 y0, .int .i64 y1, .int .i64 y2, .int .i64 y3, .int .i64 y4, .bool y5])).run Go.Proofs.Try.prog w = .ok (x0 == y0 && (x1 == y1 && (x2 == y2 && (x3 == y3 && (x4 == y4 && (x5 == y5)))))) w := eqA28 9998 w x0 y0 x1 y1 x2 y2 x3 y3 x4 y4 x5 y5
  constructor
  · unfold eqGuard; go_simp
  · simp only [binOp]; simp [h]
end Go.Proofs.Ytabjdjkkpbkpfaa.Pk
