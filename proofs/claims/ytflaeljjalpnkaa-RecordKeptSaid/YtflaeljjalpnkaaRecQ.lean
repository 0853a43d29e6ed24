/-
  '==' and '!=' of equal structs.
-/
import Derived.Test.YtflaeljjalpnkaaTail
namespace Go.Proofs.Ytflaeljjalpnkaa
set_option linter.unusedVariables false
set_option linter.unusedSimpArgs false
open Go.RowKit

theorem eqlFilter (x0 x1 x2 x3 x4 x5 : Int) (w : World) : (binOp .eql 41 (.agg #[.int .u64 x0, .int .u64 x1, .int .u64 x2, .int .u64 x3, .int .u32 x4, .int .u32 x5]) (.agg #[.int .u64 x0, .int .u64 x1, .int .u64 x2, .int .u64 x3, .int .u32 x4, .int .u32 x5])).run Try.prog w = .ok (.bool true) w := by
  go_simp
  try simp
theorem neqFilter (x0 x1 x2 x3 x4 x5 : Int) (w : World) : (binOp .neq 41 (.agg #[.int .u64 x0, .int .u64 x1, .int .u64 x2, .int .u64 x3, .int .u32 x4, .int .u32 x5]) (.agg #[.int .u64 x0, .int .u64 x1, .int .u64 x2, .int .u64 x3, .int .u32 x4, .int .u32 x5])).run Try.prog w = .ok (.bool false) w := by
  go_simp
  try simp
theorem eqlResult (x0 x1 : Int) (w : World) : (binOp .eql 44 (.agg #[.int .u32 x0, .int .u32 x1]) (.agg #[.int .u32 x0, .int .u32 x1])).run Try.prog w = .ok (.bool true) w := by
  go_simp
  try simp
theorem neqResult (x0 x1 : Int) (w : World) : (binOp .neq 44 (.agg #[.int .u32 x0, .int .u32 x1]) (.agg #[.int .u32 x0, .int .u32 x1])).run Try.prog w = .ok (.bool false) w := by
  go_simp
  try simp
theorem eqlBalance (x0 x1 x2 x3 x4 x5 x6 x7 x8 : Int) (w : World) : (binOp .eql 28 (.agg #[.int .u64 x0, .int .u64 x1, .int .u64 x2, .int .u64 x3, .int .u64 x4, .int .u64 x5, .int .u64 x6, .int .u64 x7, .int .u64 x8]) (.agg #[.int .u64 x0, .int .u64 x1, .int .u64 x2, .int .u64 x3, .int .u64 x4, .int .u64 x5, .int .u64 x6, .int .u64 x7, .int .u64 x8])).run Try.prog w = .ok (.bool true) w := by
  go_simp
  try simp
theorem neqBalance (x0 x1 x2 x3 x4 x5 x6 x7 x8 : Int) (w : World) : (binOp .neq 28 (.agg #[.int .u64 x0, .int .u64 x1, .int .u64 x2, .int .u64 x3, .int .u64 x4, .int .u64 x5, .int .u64 x6, .int .u64 x7, .int .u64 x8]) (.agg #[.int .u64 x0, .int .u64 x1, .int .u64 x2, .int .u64 x3, .int .u64 x4, .int .u64 x5, .int .u64 x6, .int .u64 x7, .int .u64 x8])).run Try.prog w = .ok (.bool false) w := by
  go_simp
  try simp
theorem eqlAccount (x0 x1 x2 x3 x4 x5 x6 x7 x8 x9 x10 x11 x12 x13 x14 : Int) (w : World) : (binOp .eql 56 (.agg #[.int .u64 x0, .int .u64 x1, .int .u64 x2, .int .u64 x3, .int .u64 x4, .int .u64 x5, .int .u64 x6, .int .u64 x7, .int .u64 x8, .int .u64 x9, .int .u64 x10, .int .u32 x11, .int .u16 x12, .int .u16 x13, .int .u64 x14]) (.agg #[.int .u64 x0, .int .u64 x1, .int .u64 x2, .int .u64 x3, .int .u64 x4, .int .u64 x5, .int .u64 x6, .int .u64 x7, .int .u64 x8, .int .u64 x9, .int .u64 x10, .int .u32 x11, .int .u16 x12, .int .u16 x13, .int .u64 x14])).run Try.prog w = .ok (.bool true) w := by
  go_simp
  try simp
theorem neqAccount (x0 x1 x2 x3 x4 x5 x6 x7 x8 x9 x10 x11 x12 x13 x14 : Int) (w : World) : (binOp .neq 56 (.agg #[.int .u64 x0, .int .u64 x1, .int .u64 x2, .int .u64 x3, .int .u64 x4, .int .u64 x5, .int .u64 x6, .int .u64 x7, .int .u64 x8, .int .u64 x9, .int .u64 x10, .int .u32 x11, .int .u16 x12, .int .u16 x13, .int .u64 x14]) (.agg #[.int .u64 x0, .int .u64 x1, .int .u64 x2, .int .u64 x3, .int .u64 x4, .int .u64 x5, .int .u64 x6, .int .u64 x7, .int .u64 x8, .int .u64 x9, .int .u64 x10, .int .u32 x11, .int .u16 x12, .int .u16 x13, .int .u64 x14])).run Try.prog w = .ok (.bool false) w := by
  go_simp
  try simp
theorem eqlTransfer (x0 x1 x2 x3 x4 x5 x6 x7 x8 x9 x10 x11 x12 x13 x14 x15 : Int) (w : World) : (binOp .eql 66 (.agg #[.int .u64 x0, .int .u64 x1, .int .u64 x2, .int .u64 x3, .int .u64 x4, .int .u64 x5, .int .u64 x6, .int .u64 x7, .int .u64 x8, .int .u64 x9, .int .u64 x10, .int .u32 x11, .int .u32 x12, .int .u16 x13, .int .u16 x14, .int .u64 x15]) (.agg #[.int .u64 x0, .int .u64 x1, .int .u64 x2, .int .u64 x3, .int .u64 x4, .int .u64 x5, .int .u64 x6, .int .u64 x7, .int .u64 x8, .int .u64 x9, .int .u64 x10, .int .u32 x11, .int .u32 x12, .int .u16 x13, .int .u16 x14, .int .u64 x15])).run Try.prog w = .ok (.bool true) w := by
  go_simp
  try simp
theorem neqTransfer (x0 x1 x2 x3 x4 x5 x6 x7 x8 x9 x10 x11 x12 x13 x14 x15 : Int) (w : World) : (binOp .neq 66 (.agg #[.int .u64 x0, .int .u64 x1, .int .u64 x2, .int .u64 x3, .int .u64 x4, .int .u64 x5, .int .u64 x6, .int .u64 x7, .int .u64 x8, .int .u64 x9, .int .u64 x10, .int .u32 x11, .int .u32 x12, .int .u16 x13, .int .u16 x14, .int .u64 x15]) (.agg #[.int .u64 x0, .int .u64 x1, .int .u64 x2, .int .u64 x3, .int .u64 x4, .int .u64 x5, .int .u64 x6, .int .u64 x7, .int .u64 x8, .int .u64 x9, .int .u64 x10, .int .u32 x11, .int .u32 x12, .int .u16 x13, .int .u16 x14, .int .u64 x15])).run Try.prog w = .ok (.bool false) w := by
  go_simp
  try simp
theorem eqlRow (x0 x1 x2 x3 x4 x5 x6 x7 x8 x9 : Int) (w : World) : (binOp .eql 30 (.agg #[.int .u64 x0, .int .u64 x1, .int .u64 x2, .int .u64 x3, .int .u64 x4, .int .u64 x5, .int .u64 x6, .int .u64 x7, .int .u64 x8, .int .u8 x9]) (.agg #[.int .u64 x0, .int .u64 x1, .int .u64 x2, .int .u64 x3, .int .u64 x4, .int .u64 x5, .int .u64 x6, .int .u64 x7, .int .u64 x8, .int .u8 x9])).run Try.prog w = .ok (.bool true) w := by
  go_simp
  try simp
theorem neqRow (x0 x1 x2 x3 x4 x5 x6 x7 x8 x9 : Int) (w : World) : (binOp .neq 30 (.agg #[.int .u64 x0, .int .u64 x1, .int .u64 x2, .int .u64 x3, .int .u64 x4, .int .u64 x5, .int .u64 x6, .int .u64 x7, .int .u64 x8, .int .u8 x9]) (.agg #[.int .u64 x0, .int .u64 x1, .int .u64 x2, .int .u64 x3, .int .u64 x4, .int .u64 x5, .int .u64 x6, .int .u64 x7, .int .u64 x8, .int .u8 x9])).run Try.prog w = .ok (.bool false) w := by
  go_simp
  try simp
theorem eqlDue (x0 x1 x2 x3 : Int) (w : World) : (binOp .eql 26 (.agg #[.int .u64 x0, .int .u64 x1, .int .u64 x2, .int .u64 x3]) (.agg #[.int .u64 x0, .int .u64 x1, .int .u64 x2, .int .u64 x3])).run Try.prog w = .ok (.bool true) w := by
  go_simp
  try simp
theorem neqDue (x0 x1 x2 x3 : Int) (w : World) : (binOp .neq 26 (.agg #[.int .u64 x0, .int .u64 x1, .int .u64 x2, .int .u64 x3]) (.agg #[.int .u64 x0, .int .u64 x1, .int .u64 x2, .int .u64 x3])).run Try.prog w = .ok (.bool false) w := by
  go_simp
  try simp
theorem eqlKept (x0 x1 x2 x3 x4 x5 x6 x7 x8 x9 x10 x11 x12 x13 x14 x15 x16 x17 : Int) (w : World) : (binOp .eql 78 (.agg #[.int .u64 x0, .int .u64 x1, .int .u64 x2, .int .u64 x3, .int .u64 x4, .int .u64 x5, .int .u64 x6, .int .u64 x7, .int .u64 x8, .int .u64 x9, .int .u64 x10, .int .u32 x11, .int .u32 x12, .int .u16 x13, .int .u16 x14, .int .u64 x15, .int .u64 x16, .int .u64 x17]) (.agg #[.int .u64 x0, .int .u64 x1, .int .u64 x2, .int .u64 x3, .int .u64 x4, .int .u64 x5, .int .u64 x6, .int .u64 x7, .int .u64 x8, .int .u64 x9, .int .u64 x10, .int .u32 x11, .int .u32 x12, .int .u16 x13, .int .u16 x14, .int .u64 x15, .int .u64 x16, .int .u64 x17])).run Try.prog w = .ok (.bool true) w := by
  go_simp
  try simp
theorem neqKept (x0 x1 x2 x3 x4 x5 x6 x7 x8 x9 x10 x11 x12 x13 x14 x15 x16 x17 : Int) (w : World) : (binOp .neq 78 (.agg #[.int .u64 x0, .int .u64 x1, .int .u64 x2, .int .u64 x3, .int .u64 x4, .int .u64 x5, .int .u64 x6, .int .u64 x7, .int .u64 x8, .int .u64 x9, .int .u64 x10, .int .u32 x11, .int .u32 x12, .int .u16 x13, .int .u16 x14, .int .u64 x15, .int .u64 x16, .int .u64 x17]) (.agg #[.int .u64 x0, .int .u64 x1, .int .u64 x2, .int .u64 x3, .int .u64 x4, .int .u64 x5, .int .u64 x6, .int .u64 x7, .int .u64 x8, .int .u64 x9, .int .u64 x10, .int .u32 x11, .int .u32 x12, .int .u16 x13, .int .u16 x14, .int .u64 x15, .int .u64 x16, .int .u64 x17])).run Try.prog w = .ok (.bool false) w := by
  go_simp
  try simp
theorem eqlU128 (x0 x1 : Int) (w : World) : (binOp .eql 24 (.agg #[.int .u64 x0, .int .u64 x1]) (.agg #[.int .u64 x0, .int .u64 x1])).run Try.prog w = .ok (.bool true) w := by
  go_simp
  try simp
theorem neqU128 (x0 x1 : Int) (w : World) : (binOp .neq 24 (.agg #[.int .u64 x0, .int .u64 x1]) (.agg #[.int .u64 x0, .int .u64 x1])).run Try.prog w = .ok (.bool false) w := by
  go_simp
  try simp
attribute [go_sem ↓] eqlFilter neqFilter eqlResult neqResult eqlBalance neqBalance eqlAccount neqAccount eqlTransfer neqTransfer eqlRow neqRow eqlDue neqDue eqlKept neqKept eqlU128 neqU128
end Go.Proofs.Ytflaeljjalpnkaa
