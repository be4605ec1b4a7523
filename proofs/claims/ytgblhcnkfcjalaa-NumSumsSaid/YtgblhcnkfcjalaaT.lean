/- What the program says of its types. -/
import Derived.Test.YtgblhcnkfcjalaaB3
import Derived.Test.YtgblhcnkfcjalaaProg
import Derived.KernelRfl
set_option linter.unusedVariables false
set_option linter.unusedSimpArgs false
namespace Go.Abs
open Go Go.Proofs

theorem T.hm : Try.prog.follows .mixedOrders = true := by kernel_rfl
theorem T.z3 : sized Try.prog 3 = true := by kernel_rfl
theorem T.s3 : szOf Try.prog 3 = 1 := by kernel_rfl
theorem T.r3 : isRowT Try.prog 3 = some false := by kernel_rfl
theorem T.i3 : isSliceT Try.prog 3 = false := by kernel_rfl
theorem T.z4 : sized Try.prog 4 = true := by kernel_rfl
theorem T.s4 : szOf Try.prog 4 = 1 := by kernel_rfl
theorem T.r4 : isRowT Try.prog 4 = some false := by kernel_rfl
theorem T.i4 : isSliceT Try.prog 4 = false := by kernel_rfl
theorem T.z5 : sized Try.prog 5 = true := by kernel_rfl
theorem T.s5 : szOf Try.prog 5 = 1 := by kernel_rfl
theorem T.r5 : isRowT Try.prog 5 = some false := by kernel_rfl
theorem T.i5 : isSliceT Try.prog 5 = false := by kernel_rfl
theorem T.z22 : sized Try.prog 22 = true := by kernel_rfl
theorem T.s22 : szOf Try.prog 22 = 1 := by kernel_rfl
theorem T.r22 : isRowT Try.prog 22 = some false := by kernel_rfl
theorem T.i22 : isSliceT Try.prog 22 = true := by kernel_rfl
theorem T.o22 : okSrc Try.prog 22 = true := by kernel_rfl
theorem T.z24 : sized Try.prog 24 = true := by kernel_rfl
theorem T.r24 : isRowT Try.prog 24 = some true := by kernel_rfl
theorem T.i24 : isSliceT Try.prog 24 = false := by kernel_rfl
theorem T.z50 : sized Try.prog 50 = true := by kernel_rfl
theorem T.s50 : szOf Try.prog 50 = 1 := by kernel_rfl
theorem T.r50 : isRowT Try.prog 50 = some false := by kernel_rfl
theorem T.i50 : isSliceT Try.prog 50 = false := by kernel_rfl
theorem T.z155 : sized Try.prog 62 = true := by kernel_rfl
theorem T.s155 : szOf Try.prog 62 = 1 := by kernel_rfl
theorem T.r155 : isRowT Try.prog 62 = some false := by kernel_rfl
theorem T.i155 : isSliceT Try.prog 62 = false := by kernel_rfl
theorem T.z2 : sized Try.prog 2 = true := by kernel_rfl
theorem T.s2 : szOf Try.prog 2 = 1 := by kernel_rfl
theorem T.r2 : isRowT Try.prog 2 = some false := by kernel_rfl
theorem T.i2 : isSliceT Try.prog 2 = false := by kernel_rfl
theorem T.z156 : sized Try.prog 63 = true := by kernel_rfl
theorem T.s156 : szOf Try.prog 63 = 1 := by kernel_rfl
theorem T.r156 : isRowT Try.prog 63 = some false := by kernel_rfl
theorem T.i156 : isSliceT Try.prog 63 = false := by kernel_rfl
theorem T.z21 : sized Try.prog 21 = true := by kernel_rfl
theorem T.s21 : szOf Try.prog 21 = 1 := by kernel_rfl
theorem T.r21 : isRowT Try.prog 21 = some false := by kernel_rfl
theorem T.i21 : isSliceT Try.prog 21 = false := by kernel_rfl
theorem T.z27 : sized Try.prog 27 = true := by kernel_rfl
theorem T.s27 : szOf Try.prog 27 = 1 := by kernel_rfl
theorem T.r27 : isRowT Try.prog 27 = some false := by kernel_rfl
theorem T.i27 : isSliceT Try.prog 27 = false := by kernel_rfl
theorem T.z147 : sized Try.prog 54 = true := by kernel_rfl
theorem T.s147 : szOf Try.prog 54 = 1 := by kernel_rfl
theorem T.r147 : isRowT Try.prog 54 = some false := by kernel_rfl
theorem T.i147 : isSliceT Try.prog 54 = true := by kernel_rfl
theorem T.o147 : okSrc Try.prog 54 = true := by kernel_rfl
theorem T.f24_0 {b o : Nat} : aFieldAddr Try.prog 24 (.pointer (some ⟨b, o, none⟩)) 0 = some (.pointer (some ⟨b, o + 0, none⟩)) := by
  simp only [aFieldAddr, Try.underlying24]
  exact if_pos ⟨T.z4, by show szOf Try.prog 4 ≠ 0; rw [T.s4]; decide⟩
attribute [go_sem] T.f24_0
theorem T.fs24_0 {v : Value} {o : Nat} : aFieldAddr Try.prog 24 (.pointer (some (sadr v o))) 0 = some (.pointer (some (sadr v (o + 0)))) := T.f24_0
attribute [go_sem] T.fs24_0
theorem T.f24_1 {b o : Nat} : aFieldAddr Try.prog 24 (.pointer (some ⟨b, o, none⟩)) 1 = some (.pointer (some ⟨b, o + 1, none⟩)) := by
  simp only [aFieldAddr, Try.underlying24]
  exact if_pos ⟨T.z22, by show szOf Try.prog 22 ≠ 0; rw [T.s22]; decide⟩
attribute [go_sem] T.f24_1
theorem T.fs24_1 {v : Value} {o : Nat} : aFieldAddr Try.prog 24 (.pointer (some (sadr v o))) 1 = some (.pointer (some (sadr v (o + 1)))) := T.f24_1
attribute [go_sem] T.fs24_1
theorem T.s24 : szOf Try.prog 24 = 2 := by kernel_rfl
theorem T.l24 {H : Heap} {b off : Nat} : aLoad Try.prog H 24 (.pointer (some ⟨b, off, none⟩)) = (rowsAt (H.get b) off 2).map fun l => .agg ⟨l⟩ := by rw [load_row T.r24 T.z24, T.s24]
attribute [go_sem] T.l24
theorem T.l3 {H : Heap} {b off : Nat} : aLoad Try.prog H 3 (.pointer (some ⟨b, off, none⟩)) = rowAt (H.get b) off := load_one T.r3
attribute [go_sem] T.l3
theorem T.l4 {H : Heap} {b off : Nat} : aLoad Try.prog H 4 (.pointer (some ⟨b, off, none⟩)) = rowAt (H.get b) off := load_one T.r4
attribute [go_sem] T.l4
theorem T.l5 {H : Heap} {b off : Nat} : aLoad Try.prog H 5 (.pointer (some ⟨b, off, none⟩)) = rowAt (H.get b) off := load_one T.r5
attribute [go_sem] T.l5
theorem T.l22 {H : Heap} {b off : Nat} : aLoad Try.prog H 22 (.pointer (some ⟨b, off, none⟩)) = rowAt (H.get b) off := load_one T.r22
attribute [go_sem] T.l22
theorem T.l50 {H : Heap} {b off : Nat} : aLoad Try.prog H 50 (.pointer (some ⟨b, off, none⟩)) = rowAt (H.get b) off := load_one T.r50
attribute [go_sem] T.l50
theorem T.l155 {H : Heap} {b off : Nat} : aLoad Try.prog H 62 (.pointer (some ⟨b, off, none⟩)) = rowAt (H.get b) off := load_one T.r155
attribute [go_sem] T.l155
theorem T.l2 {H : Heap} {b off : Nat} : aLoad Try.prog H 2 (.pointer (some ⟨b, off, none⟩)) = rowAt (H.get b) off := load_one T.r2
attribute [go_sem] T.l2
theorem T.l156 {H : Heap} {b off : Nat} : aLoad Try.prog H 63 (.pointer (some ⟨b, off, none⟩)) = rowAt (H.get b) off := load_one T.r156
attribute [go_sem] T.l156
theorem T.l21 {H : Heap} {b off : Nat} : aLoad Try.prog H 21 (.pointer (some ⟨b, off, none⟩)) = rowAt (H.get b) off := load_one T.r21
attribute [go_sem] T.l21
theorem T.l27 {H : Heap} {b off : Nat} : aLoad Try.prog H 27 (.pointer (some ⟨b, off, none⟩)) = rowAt (H.get b) off := load_one T.r27
attribute [go_sem] T.l27
theorem T.l147 {H : Heap} {b off : Nat} : aLoad Try.prog H 54 (.pointer (some ⟨b, off, none⟩)) = rowAt (H.get b) off := load_one T.r147
attribute [go_sem] T.l147
theorem T.e4 {x y : Operand} {a b : Bool} : aBin Try.prog .eql 4 x y (.bool a) (.bool b) = some (.bool (a == b)) := bin_beql Try.underlying4
theorem T.n4 {x y : Operand} {a b : Bool} : aBin Try.prog .neq 4 x y (.bool a) (.bool b) = some (.bool (a != b)) := bin_bneq Try.underlying4
attribute [go_sem] T.e4 T.n4
theorem T.c3_3 {H : Heap} {k : IntKind} {n : Int} : aConv Try.prog H 3 3 (.int k n) = some (.int .i64 (IntKind.i64.wrap n)) := conv_int T.i3 Try.underlying3 Try.underlying3
theorem T.c3_5 {H : Heap} {k : IntKind} {n : Int} : aConv Try.prog H 3 5 (.int k n) = some (.int .u8 (IntKind.u8.wrap n)) := conv_int T.i3 Try.underlying3 Try.underlying5
theorem T.c3_50 {H : Heap} {k : IntKind} {n : Int} : aConv Try.prog H 3 50 (.int k n) = some (.int .u32 (IntKind.u32.wrap n)) := conv_int T.i3 Try.underlying3 Try.underlying50
theorem T.c3_155 {H : Heap} {k : IntKind} {n : Int} : aConv Try.prog H 3 62 (.int k n) = some (.int .u64 (IntKind.u64.wrap n)) := conv_int T.i3 Try.underlying3 Try.underlying62
theorem T.c3_2 {H : Heap} {k : IntKind} {n : Int} : aConv Try.prog H 3 2 (.int k n) = some (.int .i64 (IntKind.i64.wrap n)) := conv_int T.i3 Try.underlying3 Try.underlying2
theorem T.c3_156 {H : Heap} {k : IntKind} {n : Int} : aConv Try.prog H 3 63 (.int k n) = some (.int .u64 (IntKind.u64.wrap n)) := conv_int T.i3 Try.underlying3 Try.underlying63
theorem T.c3_21 {H : Heap} {k : IntKind} {n : Int} : aConv Try.prog H 3 21 (.int k n) = some (.int .i32 (IntKind.i32.wrap n)) := conv_int T.i3 Try.underlying3 Try.underlying21
theorem T.c3_27 {H : Heap} {k : IntKind} {n : Int} : aConv Try.prog H 3 27 (.int k n) = some (.int .i64 (IntKind.i64.wrap n)) := conv_int T.i3 Try.underlying3 Try.underlying27
theorem T.c5_3 {H : Heap} {k : IntKind} {n : Int} : aConv Try.prog H 5 3 (.int k n) = some (.int .i64 (IntKind.i64.wrap n)) := conv_int T.i5 Try.underlying5 Try.underlying3
theorem T.c5_5 {H : Heap} {k : IntKind} {n : Int} : aConv Try.prog H 5 5 (.int k n) = some (.int .u8 (IntKind.u8.wrap n)) := conv_int T.i5 Try.underlying5 Try.underlying5
theorem T.c5_50 {H : Heap} {k : IntKind} {n : Int} : aConv Try.prog H 5 50 (.int k n) = some (.int .u32 (IntKind.u32.wrap n)) := conv_int T.i5 Try.underlying5 Try.underlying50
theorem T.c5_155 {H : Heap} {k : IntKind} {n : Int} : aConv Try.prog H 5 62 (.int k n) = some (.int .u64 (IntKind.u64.wrap n)) := conv_int T.i5 Try.underlying5 Try.underlying62
theorem T.c5_2 {H : Heap} {k : IntKind} {n : Int} : aConv Try.prog H 5 2 (.int k n) = some (.int .i64 (IntKind.i64.wrap n)) := conv_int T.i5 Try.underlying5 Try.underlying2
theorem T.c5_156 {H : Heap} {k : IntKind} {n : Int} : aConv Try.prog H 5 63 (.int k n) = some (.int .u64 (IntKind.u64.wrap n)) := conv_int T.i5 Try.underlying5 Try.underlying63
theorem T.c5_21 {H : Heap} {k : IntKind} {n : Int} : aConv Try.prog H 5 21 (.int k n) = some (.int .i32 (IntKind.i32.wrap n)) := conv_int T.i5 Try.underlying5 Try.underlying21
theorem T.c5_27 {H : Heap} {k : IntKind} {n : Int} : aConv Try.prog H 5 27 (.int k n) = some (.int .i64 (IntKind.i64.wrap n)) := conv_int T.i5 Try.underlying5 Try.underlying27
theorem T.c50_3 {H : Heap} {k : IntKind} {n : Int} : aConv Try.prog H 50 3 (.int k n) = some (.int .i64 (IntKind.i64.wrap n)) := conv_int T.i50 Try.underlying50 Try.underlying3
theorem T.c50_5 {H : Heap} {k : IntKind} {n : Int} : aConv Try.prog H 50 5 (.int k n) = some (.int .u8 (IntKind.u8.wrap n)) := conv_int T.i50 Try.underlying50 Try.underlying5
theorem T.c50_50 {H : Heap} {k : IntKind} {n : Int} : aConv Try.prog H 50 50 (.int k n) = some (.int .u32 (IntKind.u32.wrap n)) := conv_int T.i50 Try.underlying50 Try.underlying50
theorem T.c50_155 {H : Heap} {k : IntKind} {n : Int} : aConv Try.prog H 50 62 (.int k n) = some (.int .u64 (IntKind.u64.wrap n)) := conv_int T.i50 Try.underlying50 Try.underlying62
theorem T.c50_2 {H : Heap} {k : IntKind} {n : Int} : aConv Try.prog H 50 2 (.int k n) = some (.int .i64 (IntKind.i64.wrap n)) := conv_int T.i50 Try.underlying50 Try.underlying2
theorem T.c50_156 {H : Heap} {k : IntKind} {n : Int} : aConv Try.prog H 50 63 (.int k n) = some (.int .u64 (IntKind.u64.wrap n)) := conv_int T.i50 Try.underlying50 Try.underlying63
theorem T.c50_21 {H : Heap} {k : IntKind} {n : Int} : aConv Try.prog H 50 21 (.int k n) = some (.int .i32 (IntKind.i32.wrap n)) := conv_int T.i50 Try.underlying50 Try.underlying21
theorem T.c50_27 {H : Heap} {k : IntKind} {n : Int} : aConv Try.prog H 50 27 (.int k n) = some (.int .i64 (IntKind.i64.wrap n)) := conv_int T.i50 Try.underlying50 Try.underlying27
theorem T.c155_3 {H : Heap} {k : IntKind} {n : Int} : aConv Try.prog H 62 3 (.int k n) = some (.int .i64 (IntKind.i64.wrap n)) := conv_int T.i155 Try.underlying62 Try.underlying3
theorem T.c155_5 {H : Heap} {k : IntKind} {n : Int} : aConv Try.prog H 62 5 (.int k n) = some (.int .u8 (IntKind.u8.wrap n)) := conv_int T.i155 Try.underlying62 Try.underlying5
theorem T.c155_50 {H : Heap} {k : IntKind} {n : Int} : aConv Try.prog H 62 50 (.int k n) = some (.int .u32 (IntKind.u32.wrap n)) := conv_int T.i155 Try.underlying62 Try.underlying50
theorem T.c155_155 {H : Heap} {k : IntKind} {n : Int} : aConv Try.prog H 62 62 (.int k n) = some (.int .u64 (IntKind.u64.wrap n)) := conv_int T.i155 Try.underlying62 Try.underlying62
theorem T.c155_2 {H : Heap} {k : IntKind} {n : Int} : aConv Try.prog H 62 2 (.int k n) = some (.int .i64 (IntKind.i64.wrap n)) := conv_int T.i155 Try.underlying62 Try.underlying2
theorem T.c155_156 {H : Heap} {k : IntKind} {n : Int} : aConv Try.prog H 62 63 (.int k n) = some (.int .u64 (IntKind.u64.wrap n)) := conv_int T.i155 Try.underlying62 Try.underlying63
theorem T.c155_21 {H : Heap} {k : IntKind} {n : Int} : aConv Try.prog H 62 21 (.int k n) = some (.int .i32 (IntKind.i32.wrap n)) := conv_int T.i155 Try.underlying62 Try.underlying21
theorem T.c155_27 {H : Heap} {k : IntKind} {n : Int} : aConv Try.prog H 62 27 (.int k n) = some (.int .i64 (IntKind.i64.wrap n)) := conv_int T.i155 Try.underlying62 Try.underlying27
theorem T.c2_3 {H : Heap} {k : IntKind} {n : Int} : aConv Try.prog H 2 3 (.int k n) = some (.int .i64 (IntKind.i64.wrap n)) := conv_int T.i2 Try.underlying2 Try.underlying3
theorem T.c2_5 {H : Heap} {k : IntKind} {n : Int} : aConv Try.prog H 2 5 (.int k n) = some (.int .u8 (IntKind.u8.wrap n)) := conv_int T.i2 Try.underlying2 Try.underlying5
theorem T.c2_50 {H : Heap} {k : IntKind} {n : Int} : aConv Try.prog H 2 50 (.int k n) = some (.int .u32 (IntKind.u32.wrap n)) := conv_int T.i2 Try.underlying2 Try.underlying50
theorem T.c2_155 {H : Heap} {k : IntKind} {n : Int} : aConv Try.prog H 2 62 (.int k n) = some (.int .u64 (IntKind.u64.wrap n)) := conv_int T.i2 Try.underlying2 Try.underlying62
theorem T.c2_2 {H : Heap} {k : IntKind} {n : Int} : aConv Try.prog H 2 2 (.int k n) = some (.int .i64 (IntKind.i64.wrap n)) := conv_int T.i2 Try.underlying2 Try.underlying2
theorem T.c2_156 {H : Heap} {k : IntKind} {n : Int} : aConv Try.prog H 2 63 (.int k n) = some (.int .u64 (IntKind.u64.wrap n)) := conv_int T.i2 Try.underlying2 Try.underlying63
theorem T.c2_21 {H : Heap} {k : IntKind} {n : Int} : aConv Try.prog H 2 21 (.int k n) = some (.int .i32 (IntKind.i32.wrap n)) := conv_int T.i2 Try.underlying2 Try.underlying21
theorem T.c2_27 {H : Heap} {k : IntKind} {n : Int} : aConv Try.prog H 2 27 (.int k n) = some (.int .i64 (IntKind.i64.wrap n)) := conv_int T.i2 Try.underlying2 Try.underlying27
theorem T.c156_3 {H : Heap} {k : IntKind} {n : Int} : aConv Try.prog H 63 3 (.int k n) = some (.int .i64 (IntKind.i64.wrap n)) := conv_int T.i156 Try.underlying63 Try.underlying3
theorem T.c156_5 {H : Heap} {k : IntKind} {n : Int} : aConv Try.prog H 63 5 (.int k n) = some (.int .u8 (IntKind.u8.wrap n)) := conv_int T.i156 Try.underlying63 Try.underlying5
theorem T.c156_50 {H : Heap} {k : IntKind} {n : Int} : aConv Try.prog H 63 50 (.int k n) = some (.int .u32 (IntKind.u32.wrap n)) := conv_int T.i156 Try.underlying63 Try.underlying50
theorem T.c156_155 {H : Heap} {k : IntKind} {n : Int} : aConv Try.prog H 63 62 (.int k n) = some (.int .u64 (IntKind.u64.wrap n)) := conv_int T.i156 Try.underlying63 Try.underlying62
theorem T.c156_2 {H : Heap} {k : IntKind} {n : Int} : aConv Try.prog H 63 2 (.int k n) = some (.int .i64 (IntKind.i64.wrap n)) := conv_int T.i156 Try.underlying63 Try.underlying2
theorem T.c156_156 {H : Heap} {k : IntKind} {n : Int} : aConv Try.prog H 63 63 (.int k n) = some (.int .u64 (IntKind.u64.wrap n)) := conv_int T.i156 Try.underlying63 Try.underlying63
theorem T.c156_21 {H : Heap} {k : IntKind} {n : Int} : aConv Try.prog H 63 21 (.int k n) = some (.int .i32 (IntKind.i32.wrap n)) := conv_int T.i156 Try.underlying63 Try.underlying21
theorem T.c156_27 {H : Heap} {k : IntKind} {n : Int} : aConv Try.prog H 63 27 (.int k n) = some (.int .i64 (IntKind.i64.wrap n)) := conv_int T.i156 Try.underlying63 Try.underlying27
theorem T.c21_3 {H : Heap} {k : IntKind} {n : Int} : aConv Try.prog H 21 3 (.int k n) = some (.int .i64 (IntKind.i64.wrap n)) := conv_int T.i21 Try.underlying21 Try.underlying3
theorem T.c21_5 {H : Heap} {k : IntKind} {n : Int} : aConv Try.prog H 21 5 (.int k n) = some (.int .u8 (IntKind.u8.wrap n)) := conv_int T.i21 Try.underlying21 Try.underlying5
theorem T.c21_50 {H : Heap} {k : IntKind} {n : Int} : aConv Try.prog H 21 50 (.int k n) = some (.int .u32 (IntKind.u32.wrap n)) := conv_int T.i21 Try.underlying21 Try.underlying50
theorem T.c21_155 {H : Heap} {k : IntKind} {n : Int} : aConv Try.prog H 21 62 (.int k n) = some (.int .u64 (IntKind.u64.wrap n)) := conv_int T.i21 Try.underlying21 Try.underlying62
theorem T.c21_2 {H : Heap} {k : IntKind} {n : Int} : aConv Try.prog H 21 2 (.int k n) = some (.int .i64 (IntKind.i64.wrap n)) := conv_int T.i21 Try.underlying21 Try.underlying2
theorem T.c21_156 {H : Heap} {k : IntKind} {n : Int} : aConv Try.prog H 21 63 (.int k n) = some (.int .u64 (IntKind.u64.wrap n)) := conv_int T.i21 Try.underlying21 Try.underlying63
theorem T.c21_21 {H : Heap} {k : IntKind} {n : Int} : aConv Try.prog H 21 21 (.int k n) = some (.int .i32 (IntKind.i32.wrap n)) := conv_int T.i21 Try.underlying21 Try.underlying21
theorem T.c21_27 {H : Heap} {k : IntKind} {n : Int} : aConv Try.prog H 21 27 (.int k n) = some (.int .i64 (IntKind.i64.wrap n)) := conv_int T.i21 Try.underlying21 Try.underlying27
theorem T.c27_3 {H : Heap} {k : IntKind} {n : Int} : aConv Try.prog H 27 3 (.int k n) = some (.int .i64 (IntKind.i64.wrap n)) := conv_int T.i27 Try.underlying27 Try.underlying3
theorem T.c27_5 {H : Heap} {k : IntKind} {n : Int} : aConv Try.prog H 27 5 (.int k n) = some (.int .u8 (IntKind.u8.wrap n)) := conv_int T.i27 Try.underlying27 Try.underlying5
theorem T.c27_50 {H : Heap} {k : IntKind} {n : Int} : aConv Try.prog H 27 50 (.int k n) = some (.int .u32 (IntKind.u32.wrap n)) := conv_int T.i27 Try.underlying27 Try.underlying50
theorem T.c27_155 {H : Heap} {k : IntKind} {n : Int} : aConv Try.prog H 27 62 (.int k n) = some (.int .u64 (IntKind.u64.wrap n)) := conv_int T.i27 Try.underlying27 Try.underlying62
theorem T.c27_2 {H : Heap} {k : IntKind} {n : Int} : aConv Try.prog H 27 2 (.int k n) = some (.int .i64 (IntKind.i64.wrap n)) := conv_int T.i27 Try.underlying27 Try.underlying2
theorem T.c27_156 {H : Heap} {k : IntKind} {n : Int} : aConv Try.prog H 27 63 (.int k n) = some (.int .u64 (IntKind.u64.wrap n)) := conv_int T.i27 Try.underlying27 Try.underlying63
theorem T.c27_21 {H : Heap} {k : IntKind} {n : Int} : aConv Try.prog H 27 21 (.int k n) = some (.int .i32 (IntKind.i32.wrap n)) := conv_int T.i27 Try.underlying27 Try.underlying21
theorem T.c27_27 {H : Heap} {k : IntKind} {n : Int} : aConv Try.prog H 27 27 (.int k n) = some (.int .i64 (IntKind.i64.wrap n)) := conv_int T.i27 Try.underlying27 Try.underlying27
attribute [go_sem] T.c3_3 T.c3_5 T.c3_50 T.c3_155 T.c3_2 T.c3_156 T.c3_21 T.c3_27 T.c5_3 T.c5_5 T.c5_50 T.c5_155 T.c5_2 T.c5_156 T.c5_21 T.c5_27 T.c50_3 T.c50_5 T.c50_50 T.c50_155 T.c50_2 T.c50_156 T.c50_21 T.c50_27 T.c155_3 T.c155_5 T.c155_50 T.c155_155 T.c155_2 T.c155_156 T.c155_21 T.c155_27 T.c2_3 T.c2_5 T.c2_50 T.c2_155 T.c2_2 T.c2_156 T.c2_21 T.c2_27 T.c156_3 T.c156_5 T.c156_50 T.c156_155 T.c156_2 T.c156_156 T.c156_21 T.c156_27 T.c21_3 T.c21_5 T.c21_50 T.c21_155 T.c21_2 T.c21_156 T.c21_21 T.c21_27 T.c27_3 T.c27_5 T.c27_50 T.c27_155 T.c27_2 T.c27_156 T.c27_21 T.c27_27
theorem T.parts22 {H : Heap} {e : Env} {K : Value → Heap → Prop} {d : Option Tmp} {ty : TypeId} {ps : String} {af : Array Edge} {gd : Option (Nat × Bool)} {parts : List (Nat × Operand)} {len : Nat} (hlen : len ≤ 2 ^ 24) : aStep Try.prog e H ⟨d, .buildSlice 22 len ⟨parts⟩, ty, ps, af, gd⟩ K = ob (evps e parts) fun vs => ob (pFill (.int .u32 0) len vs) fun cs => K (.slice (some ⟨H.next, 0, none⟩) len len) (H.push (.row true 50 cs)) :=
  s_parts Try.underlying22 (info_of_type Try.type50) (z := .int .u32 0) rfl rfl rfl rfl hlen
theorem T.make22 {H : Heap} {e : Env} {K : Value → Heap → Prop} {d : Option Tmp} {ty : TypeId} {ps : String} {af : Array Edge} {gd : Option (Nat × Bool)} {x y : Operand} : aStep Try.prog e H ⟨d, .makeSlice 22 x y, ty, ps, af, gd⟩ K = ob (e x) fun a => ob (e y) fun b => ob (aMk 4 a b) fun p => K (.slice (some ⟨H.next, 0, none⟩) p.1 p.2) (H.push (.row true 50 (List.replicate p.2 (.int .u32 0)))) :=
  s_make Try.underlying22 (info_of_type Try.type50) (z := .int .u32 0) rfl rfl rfl rfl
theorem T.nil22 {x y : Operand} {v : Value} (h : isSl v = true) {n c : Nat} : aBin Try.prog .eql 22 x y v (.slice none n c) = some (.bool (isNil v)) := bin_isNil Try.underlying22 h
attribute [go_sem] T.parts22 T.make22 T.nil22
theorem T.rows147 {H : Heap} {e : Env} {K : Value → Heap → Prop} {d : Option Tmp} {ty : TypeId} {ps : String} {af : Array Edge} {gd : Option (Nat × Bool)} {parts : List (Nat × Operand)} {len : Nat} (hlen : len ≤ 2 ^ 20) : aStep Try.prog e H ⟨d, .buildSlice 54 len ⟨parts⟩, ty, ps, af, gd⟩ K = ob (evps e parts) fun vs => ob (rFill 2 (Try.t24.zero.getD undef) len vs) fun cs => K (.slice (some ⟨H.next, 0, none⟩) len len) (H.push (.row true 24 cs)) :=
  s_rows (es := 2) Try.underlying54 (info_of_type Try.type24) (z := Try.t24.zero.getD undef) rfl rfl rfl rfl (by omega) (by omega)
theorem T.nil147 {x y : Operand} {v : Value} (h : isSl v = true) {n c : Nat} : aBin Try.prog .eql 54 x y v (.slice none n c) = some (.bool (isNil v)) := bin_isNil Try.underlying54 h
attribute [go_sem] T.rows147 T.nil147
theorem T.w3 {H : Heap} {b off : Nat} {x : Int}  : aStore Try.prog H 3 (.pointer (some ⟨b, off, none⟩)) (.int .i64 x) = stRow H b off [.int .i64 x] (H.get b) := store_row (vs := [.int .i64 x]) T.z3 T.s3 (rfl) rfl (rfl)
attribute [go_sem] T.w3
theorem T.w4 {H : Heap} {b off : Nat} {x : Bool}  : aStore Try.prog H 4 (.pointer (some ⟨b, off, none⟩)) (.bool x) = stRow H b off [.bool x] (H.get b) := store_row (vs := [.bool x]) T.z4 T.s4 (rfl) rfl (rfl)
attribute [go_sem] T.w4
theorem T.w5 {H : Heap} {b off : Nat} {x : Int}  : aStore Try.prog H 5 (.pointer (some ⟨b, off, none⟩)) (.int .u8 x) = stRow H b off [.int .u8 x] (H.get b) := store_row (vs := [.int .u8 x]) T.z5 T.s5 (rfl) rfl (rfl)
attribute [go_sem] T.w5
theorem T.w22 {H : Heap} {b off : Nat} {x : Value} (hx : isSl x = true) : aStore Try.prog H 22 (.pointer (some ⟨b, off, none⟩)) (x) = stRow H b off [x] (H.get b) := store_row (vs := [x]) T.z22 T.s22 (isSl_cells hx) rfl (by simp only [List.all_cons, List.all_nil, isSl_one hx, Bool.and_true])
attribute [go_sem] T.w22
theorem T.w50 {H : Heap} {b off : Nat} {x : Int}  : aStore Try.prog H 50 (.pointer (some ⟨b, off, none⟩)) (.int .u32 x) = stRow H b off [.int .u32 x] (H.get b) := store_row (vs := [.int .u32 x]) T.z50 T.s50 (rfl) rfl (rfl)
attribute [go_sem] T.w50
theorem T.w155 {H : Heap} {b off : Nat} {x : Int}  : aStore Try.prog H 62 (.pointer (some ⟨b, off, none⟩)) (.int .u64 x) = stRow H b off [.int .u64 x] (H.get b) := store_row (vs := [.int .u64 x]) T.z155 T.s155 (rfl) rfl (rfl)
attribute [go_sem] T.w155
theorem T.w2 {H : Heap} {b off : Nat} {x : Int}  : aStore Try.prog H 2 (.pointer (some ⟨b, off, none⟩)) (.int .i64 x) = stRow H b off [.int .i64 x] (H.get b) := store_row (vs := [.int .i64 x]) T.z2 T.s2 (rfl) rfl (rfl)
attribute [go_sem] T.w2
theorem T.w156 {H : Heap} {b off : Nat} {x : Int}  : aStore Try.prog H 63 (.pointer (some ⟨b, off, none⟩)) (.int .u64 x) = stRow H b off [.int .u64 x] (H.get b) := store_row (vs := [.int .u64 x]) T.z156 T.s156 (rfl) rfl (rfl)
attribute [go_sem] T.w156
theorem T.w21 {H : Heap} {b off : Nat} {x : Int}  : aStore Try.prog H 21 (.pointer (some ⟨b, off, none⟩)) (.int .i32 x) = stRow H b off [.int .i32 x] (H.get b) := store_row (vs := [.int .i32 x]) T.z21 T.s21 (rfl) rfl (rfl)
attribute [go_sem] T.w21
theorem T.w27 {H : Heap} {b off : Nat} {x : Int}  : aStore Try.prog H 27 (.pointer (some ⟨b, off, none⟩)) (.int .i64 x) = stRow H b off [.int .i64 x] (H.get b) := store_row (vs := [.int .i64 x]) T.z27 T.s27 (rfl) rfl (rfl)
attribute [go_sem] T.w27
theorem T.w147 {H : Heap} {b off : Nat} {x : Value} (hx : isSl x = true) : aStore Try.prog H 54 (.pointer (some ⟨b, off, none⟩)) (x) = stRow H b off [x] (H.get b) := store_row (vs := [x]) T.z147 T.s147 (isSl_cells hx) rfl (by simp only [List.all_cons, List.all_nil, isSl_one hx, Bool.and_true])
attribute [go_sem] T.w147
theorem T.b24_   : aBuild Try.prog 24 (some []) = some (.agg ⟨[.bool false, .slice none 0 0]⟩) := by kernel_rfl
attribute [go_sem] T.b24_
theorem T.b24_0 {x : Bool}  : aBuild Try.prog 24 (some [(0, .bool x)]) = some (.agg ⟨[.bool x, .slice none 0 0]⟩) := by kernel_rfl
attribute [go_sem] T.b24_0
theorem T.b24_1 {y : Value} (hy : isSl y = true) : aBuild Try.prog 24 (some [(1, y)]) = some (.agg ⟨[.bool false, y]⟩) := by obtain ⟨_, _, _, rfl⟩ := isSl_form hy; kernel_rfl
attribute [go_sem] T.b24_1
theorem T.b24_01 {x : Bool} {y : Value} (hy : isSl y = true) : aBuild Try.prog 24 (some [(0, .bool x), (1, y)]) = some (.agg ⟨[.bool x, y]⟩) := by obtain ⟨_, _, _, rfl⟩ := isSl_form hy; kernel_rfl
attribute [go_sem] T.b24_01
theorem T.w24 {H : Heap} {b off : Nat} {x : Bool} {y : Value} (hy : isSl y = true) : aStore Try.prog H 24 (.pointer (some ⟨b, off, none⟩)) (.agg ⟨[.bool x, y]⟩) = stRow H b off [.bool x, y] (H.get b) := store_row (vs := [.bool x, y]) T.z24 T.s24 rfl rfl (by simp only [List.all_cons, List.all_nil, isSl_one hy, Bool.and_true]; rfl)
attribute [go_sem] T.w24
theorem T.new24 : aNew Try.prog (fun _ => none) (.alloc 24) = some (24, [.bool false, .slice none 0 0], fun b => .pointer (some ⟨b, 0, none⟩)) := by kernel_rfl
theorem T.alloc24 {H : Heap} {e : Env} {K : Value → Heap → Prop} {d : Option Tmp} {ty : TypeId} {ps : String} {af : Array Edge} {gd : Option (Nat × Bool)} : aStep Try.prog e H ⟨d, .alloc 24, ty, ps, af, gd⟩ K = K (.pointer (some ⟨H.next, 0, none⟩)) (H.push (.row true 24 [.bool false, .slice none 0 0])) := s_alloc T.new24
attribute [go_sem] T.alloc24
end Go.Abs
