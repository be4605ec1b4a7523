/- What the program says of its types. -/
import Derived.Test.YthiaciajkjdcnaaBf
import Derived.Test.YthiaciajkjdcnaaProg
import Derived.KernelRfl
set_option linter.unusedVariables false
set_option linter.unusedSimpArgs false
namespace Go.Abs
open Go Go.Proofs

theorem T.hm : Try.prog.follows .mixedOrders = true := by kernel_rfl
theorem T.z2 : sized Try.prog 2 = true := by kernel_rfl
theorem T.s2 : szOf Try.prog 2 = 1 := by kernel_rfl
theorem T.r2 : isRowT Try.prog 2 = some false := by kernel_rfl
theorem T.i2 : isSliceT Try.prog 2 = false := by kernel_rfl
theorem T.z3 : sized Try.prog 3 = true := by kernel_rfl
theorem T.s3 : szOf Try.prog 3 = 1 := by kernel_rfl
theorem T.r3 : isRowT Try.prog 3 = some false := by kernel_rfl
theorem T.i3 : isSliceT Try.prog 3 = false := by kernel_rfl
theorem T.z4 : sized Try.prog 4 = true := by kernel_rfl
theorem T.s4 : szOf Try.prog 4 = 1 := by kernel_rfl
theorem T.r4 : isRowT Try.prog 4 = some false := by kernel_rfl
theorem T.i4 : isSliceT Try.prog 4 = false := by kernel_rfl
theorem T.z5 : sized Try.prog 5 = true := by kernel_rfl
theorem T.s5 : szOf Try.prog 5 = 1 := by kernel_rfl
theorem T.r5 : isRowT Try.prog 5 = some false := by kernel_rfl
theorem T.i5 : isSliceT Try.prog 5 = false := by kernel_rfl
theorem T.z9 : sized Try.prog 9 = true := by kernel_rfl
theorem T.s9 : szOf Try.prog 9 = 1 := by kernel_rfl
theorem T.r9 : isRowT Try.prog 9 = some false := by kernel_rfl
theorem T.i9 : isSliceT Try.prog 9 = false := by kernel_rfl
theorem T.o9 : okSrc Try.prog 9 = true := by kernel_rfl
theorem T.z22 : sized Try.prog 22 = true := by kernel_rfl
theorem T.s22 : szOf Try.prog 22 = 1 := by kernel_rfl
theorem T.r22 : isRowT Try.prog 22 = some false := by kernel_rfl
theorem T.i22 : isSliceT Try.prog 22 = true := by kernel_rfl
theorem T.o22 : okSrc Try.prog 22 = true := by kernel_rfl
theorem T.z24 : sized Try.prog 24 = true := by kernel_rfl
theorem T.s24 : szOf Try.prog 24 = 2 := by kernel_rfl
theorem T.r24 : isRowT Try.prog 24 = some true := by kernel_rfl
theorem T.i24 : isSliceT Try.prog 24 = false := by kernel_rfl
theorem T.z27 : sized Try.prog 95 = true := by kernel_rfl
theorem T.s27 : szOf Try.prog 95 = 1 := by kernel_rfl
theorem T.r27 : isRowT Try.prog 95 = some false := by kernel_rfl
theorem T.i27 : isSliceT Try.prog 95 = false := by kernel_rfl
theorem T.z50 : sized Try.prog 86 = true := by kernel_rfl
theorem T.s50 : szOf Try.prog 86 = 1 := by kernel_rfl
theorem T.r50 : isRowT Try.prog 86 = some false := by kernel_rfl
theorem T.i50 : isSliceT Try.prog 86 = false := by kernel_rfl
theorem T.z55 : sized Try.prog 26 = true := by kernel_rfl
theorem T.s55 : szOf Try.prog 26 = 4 := by kernel_rfl
theorem T.r55 : isRowT Try.prog 26 = some true := by kernel_rfl
theorem T.i55 : isSliceT Try.prog 26 = false := by kernel_rfl
theorem T.z70 : sized Try.prog 44 = true := by kernel_rfl
theorem T.s70 : szOf Try.prog 44 = 1 := by kernel_rfl
theorem T.r70 : isRowT Try.prog 44 = some false := by kernel_rfl
theorem T.i70 : isSliceT Try.prog 44 = true := by kernel_rfl
theorem T.o70 : okSrc Try.prog 44 = true := by kernel_rfl
theorem T.z72 : sized Try.prog 43 = true := by kernel_rfl
theorem T.s72 : szOf Try.prog 43 = 1 := by kernel_rfl
theorem T.r72 : isRowT Try.prog 43 = some false := by kernel_rfl
theorem T.i72 : isSliceT Try.prog 43 = true := by kernel_rfl
theorem T.o72 : okSrc Try.prog 43 = true := by kernel_rfl
theorem T.z84 : sized Try.prog 124 = true := by kernel_rfl
theorem T.s84 : szOf Try.prog 124 = 1 := by kernel_rfl
theorem T.r84 : isRowT Try.prog 124 = some false := by kernel_rfl
theorem T.i84 : isSliceT Try.prog 124 = false := by kernel_rfl
theorem T.z93 : sized Try.prog 28 = true := by kernel_rfl
theorem T.s93 : szOf Try.prog 28 = 5 := by kernel_rfl
theorem T.r93 : isRowT Try.prog 28 = some true := by kernel_rfl
theorem T.i93 : isSliceT Try.prog 28 = false := by kernel_rfl
theorem T.z95 : sized Try.prog 31 = true := by kernel_rfl
theorem T.s95 : szOf Try.prog 31 = 1 := by kernel_rfl
theorem T.r95 : isRowT Try.prog 31 = some false := by kernel_rfl
theorem T.i95 : isSliceT Try.prog 31 = false := by kernel_rfl
theorem T.z100 : sized Try.prog 36 = true := by kernel_rfl
theorem T.s100 : szOf Try.prog 36 = 1 := by kernel_rfl
theorem T.r100 : isRowT Try.prog 36 = some false := by kernel_rfl
theorem T.i100 : isSliceT Try.prog 36 = true := by kernel_rfl
theorem T.o100 : okSrc Try.prog 36 = true := by kernel_rfl
theorem T.z107 : sized Try.prog 46 = true := by kernel_rfl
theorem T.s107 : szOf Try.prog 46 = 4 := by kernel_rfl
theorem T.r107 : isRowT Try.prog 46 = some true := by kernel_rfl
theorem T.i107 : isSliceT Try.prog 46 = false := by kernel_rfl
theorem T.z108 : sized Try.prog 47 = true := by kernel_rfl
theorem T.s108 : szOf Try.prog 47 = 1 := by kernel_rfl
theorem T.r108 : isRowT Try.prog 47 = some false := by kernel_rfl
theorem T.i108 : isSliceT Try.prog 47 = false := by kernel_rfl
theorem T.z110 : sized Try.prog 49 = true := by kernel_rfl
theorem T.s110 : szOf Try.prog 49 = 8 := by kernel_rfl
theorem T.r110 : isRowT Try.prog 49 = some true := by kernel_rfl
theorem T.i110 : isSliceT Try.prog 49 = false := by kernel_rfl
theorem T.z114 : sized Try.prog 56 = true := by kernel_rfl
theorem T.s114 : szOf Try.prog 56 = 1 := by kernel_rfl
theorem T.r114 : isRowT Try.prog 56 = some false := by kernel_rfl
theorem T.i114 : isSliceT Try.prog 56 = true := by kernel_rfl
theorem T.o114 : okSrc Try.prog 56 = true := by kernel_rfl
theorem T.z115 : sized Try.prog 57 = true := by kernel_rfl
theorem T.s115 : szOf Try.prog 57 = 1 := by kernel_rfl
theorem T.r115 : isRowT Try.prog 57 = some false := by kernel_rfl
theorem T.i115 : isSliceT Try.prog 57 = false := by kernel_rfl
theorem T.z116 : sized Try.prog 59 = true := by kernel_rfl
theorem T.s116 : szOf Try.prog 59 = 1 := by kernel_rfl
theorem T.r116 : isRowT Try.prog 59 = some false := by kernel_rfl
theorem T.i116 : isSliceT Try.prog 59 = true := by kernel_rfl
theorem T.o116 : okSrc Try.prog 59 = true := by kernel_rfl
theorem T.z140 : sized Try.prog 109 = true := by kernel_rfl
theorem T.s140 : szOf Try.prog 109 = 1 := by kernel_rfl
theorem T.r140 : isRowT Try.prog 109 = some false := by kernel_rfl
theorem T.i140 : isSliceT Try.prog 109 = true := by kernel_rfl
theorem T.o140 : okSrc Try.prog 109 = true := by kernel_rfl
theorem T.z147 : sized Try.prog 116 = true := by kernel_rfl
theorem T.s147 : szOf Try.prog 116 = 1 := by kernel_rfl
theorem T.r147 : isRowT Try.prog 116 = some false := by kernel_rfl
theorem T.i147 : isSliceT Try.prog 116 = true := by kernel_rfl
theorem T.o147 : okSrc Try.prog 116 = true := by kernel_rfl
theorem T.z155 : sized Try.prog 84 = true := by kernel_rfl
theorem T.s155 : szOf Try.prog 84 = 1 := by kernel_rfl
theorem T.r155 : isRowT Try.prog 84 = some false := by kernel_rfl
theorem T.i155 : isSliceT Try.prog 84 = false := by kernel_rfl
theorem T.z156 : sized Try.prog 87 = true := by kernel_rfl
theorem T.s156 : szOf Try.prog 87 = 1 := by kernel_rfl
theorem T.r156 : isRowT Try.prog 87 = some false := by kernel_rfl
theorem T.i156 : isSliceT Try.prog 87 = false := by kernel_rfl
theorem T.l2 {H : Heap} {b off : Nat} : aLoad Try.prog H 2 (.pointer (some ⟨b, off, none⟩)) = rowAt (H.get b) off := load_one T.r2
theorem T.lp2 {H : Heap} {v : Value} : aLoad Try.prog H 2 (fpv [v]) = some v := load_fz_one T.r2
theorem T.w2 {H : Heap} {b off : Nat} {x : Int}  : aStore Try.prog H 2 (.pointer (some ⟨b, off, none⟩)) (.int .i64 x) = stRow H b off [.int .i64 x] (H.get b) := store_row (vs := [.int .i64 x]) T.z2 T.s2 (rfl) rfl (rfl)
theorem T.new2 : aNew Try.prog (fun _ => none) (.alloc 2) = some (2, [.int .i64 0], fun b => .pointer (some ⟨b, 0, none⟩)) := by kernel_rfl
theorem T.alloc2 {H : Heap} {e : Env} {K : Value → Heap → Prop} {d : Option Tmp} {ty : TypeId} {ps : String} {af : Array Edge} {gd : Option (Nat × Bool)} : aStep Try.prog e H ⟨d, .alloc 2, ty, ps, af, gd⟩ K = K (.pointer (some ⟨H.next, 0, none⟩)) (H.push (.row true 2 [.int .i64 0])) := s_alloc T.new2
theorem T.l3 {H : Heap} {b off : Nat} : aLoad Try.prog H 3 (.pointer (some ⟨b, off, none⟩)) = rowAt (H.get b) off := load_one T.r3
theorem T.lp3 {H : Heap} {v : Value} : aLoad Try.prog H 3 (fpv [v]) = some v := load_fz_one T.r3
theorem T.w3 {H : Heap} {b off : Nat} {x : Int}  : aStore Try.prog H 3 (.pointer (some ⟨b, off, none⟩)) (.int .i64 x) = stRow H b off [.int .i64 x] (H.get b) := store_row (vs := [.int .i64 x]) T.z3 T.s3 (rfl) rfl (rfl)
theorem T.new3 : aNew Try.prog (fun _ => none) (.alloc 3) = some (3, [.int .i64 0], fun b => .pointer (some ⟨b, 0, none⟩)) := by kernel_rfl
theorem T.alloc3 {H : Heap} {e : Env} {K : Value → Heap → Prop} {d : Option Tmp} {ty : TypeId} {ps : String} {af : Array Edge} {gd : Option (Nat × Bool)} : aStep Try.prog e H ⟨d, .alloc 3, ty, ps, af, gd⟩ K = K (.pointer (some ⟨H.next, 0, none⟩)) (H.push (.row true 3 [.int .i64 0])) := s_alloc T.new3
theorem T.l4 {H : Heap} {b off : Nat} : aLoad Try.prog H 4 (.pointer (some ⟨b, off, none⟩)) = rowAt (H.get b) off := load_one T.r4
theorem T.lp4 {H : Heap} {v : Value} : aLoad Try.prog H 4 (fpv [v]) = some v := load_fz_one T.r4
theorem T.w4 {H : Heap} {b off : Nat} {x : Bool}  : aStore Try.prog H 4 (.pointer (some ⟨b, off, none⟩)) (.bool x) = stRow H b off [.bool x] (H.get b) := store_row (vs := [.bool x]) T.z4 T.s4 (rfl) rfl (rfl)
theorem T.new4 : aNew Try.prog (fun _ => none) (.alloc 4) = some (4, [.bool false], fun b => .pointer (some ⟨b, 0, none⟩)) := by kernel_rfl
theorem T.alloc4 {H : Heap} {e : Env} {K : Value → Heap → Prop} {d : Option Tmp} {ty : TypeId} {ps : String} {af : Array Edge} {gd : Option (Nat × Bool)} : aStep Try.prog e H ⟨d, .alloc 4, ty, ps, af, gd⟩ K = K (.pointer (some ⟨H.next, 0, none⟩)) (H.push (.row true 4 [.bool false])) := s_alloc T.new4
theorem T.l5 {H : Heap} {b off : Nat} : aLoad Try.prog H 5 (.pointer (some ⟨b, off, none⟩)) = rowAt (H.get b) off := load_one T.r5
theorem T.lp5 {H : Heap} {v : Value} : aLoad Try.prog H 5 (fpv [v]) = some v := load_fz_one T.r5
theorem T.w5 {H : Heap} {b off : Nat} {x : Int}  : aStore Try.prog H 5 (.pointer (some ⟨b, off, none⟩)) (.int .u8 x) = stRow H b off [.int .u8 x] (H.get b) := store_row (vs := [.int .u8 x]) T.z5 T.s5 (rfl) rfl (rfl)
theorem T.new5 : aNew Try.prog (fun _ => none) (.alloc 5) = some (5, [.int .u8 0], fun b => .pointer (some ⟨b, 0, none⟩)) := by kernel_rfl
theorem T.alloc5 {H : Heap} {e : Env} {K : Value → Heap → Prop} {d : Option Tmp} {ty : TypeId} {ps : String} {af : Array Edge} {gd : Option (Nat × Bool)} : aStep Try.prog e H ⟨d, .alloc 5, ty, ps, af, gd⟩ K = K (.pointer (some ⟨H.next, 0, none⟩)) (H.push (.row true 5 [.int .u8 0])) := s_alloc T.new5
theorem T.l9 {H : Heap} {b off : Nat} : aLoad Try.prog H 9 (.pointer (some ⟨b, off, none⟩)) = rowAt (H.get b) off := load_one T.r9
theorem T.lp9 {H : Heap} {v : Value} : aLoad Try.prog H 9 (fpv [v]) = some v := load_fz_one T.r9
theorem T.w9 {H : Heap} {b off : Nat} {x : ByteArray}  : aStore Try.prog H 9 (.pointer (some ⟨b, off, none⟩)) (.string x) = stRow H b off [.string x] (H.get b) := store_row (vs := [.string x]) T.z9 T.s9 (rfl) rfl (rfl)
theorem T.new9 : aNew Try.prog (fun _ => none) (.alloc 9) = some (9, [.string ByteArray.empty], fun b => .pointer (some ⟨b, 0, none⟩)) := by kernel_rfl
theorem T.alloc9 {H : Heap} {e : Env} {K : Value → Heap → Prop} {d : Option Tmp} {ty : TypeId} {ps : String} {af : Array Edge} {gd : Option (Nat × Bool)} : aStep Try.prog e H ⟨d, .alloc 9, ty, ps, af, gd⟩ K = K (.pointer (some ⟨H.next, 0, none⟩)) (H.push (.row true 9 [.string ByteArray.empty])) := s_alloc T.new9
theorem T.l22 {H : Heap} {b off : Nat} : aLoad Try.prog H 22 (.pointer (some ⟨b, off, none⟩)) = rowAt (H.get b) off := load_one T.r22
theorem T.lp22 {H : Heap} {v : Value} : aLoad Try.prog H 22 (fpv [v]) = some v := load_fz_one T.r22
theorem T.w22 {H : Heap} {b off : Nat} {x : Value} (hx : isSl x = true) : aStore Try.prog H 22 (.pointer (some ⟨b, off, none⟩)) (x) = stRow H b off [x] (H.get b) := store_row (vs := [x]) T.z22 T.s22 (isSl_cells hx) rfl (by simp only [List.all_cons, List.all_nil, isSl_one hx, Bool.and_true])
theorem T.new22 : aNew Try.prog (fun _ => none) (.alloc 22) = some (22, [.slice none 0 0], fun b => .pointer (some ⟨b, 0, none⟩)) := by kernel_rfl
theorem T.alloc22 {H : Heap} {e : Env} {K : Value → Heap → Prop} {d : Option Tmp} {ty : TypeId} {ps : String} {af : Array Edge} {gd : Option (Nat × Bool)} : aStep Try.prog e H ⟨d, .alloc 22, ty, ps, af, gd⟩ K = K (.pointer (some ⟨H.next, 0, none⟩)) (H.push (.row true 22 [.slice none 0 0])) := s_alloc T.new22
theorem T.f24_0 {b o : Nat} : aFieldAddr Try.prog 24 (.pointer (some ⟨b, o, none⟩)) 0 = some (.pointer (some ⟨b, o + 0, none⟩)) := faddr_own Try.underlying24 (by rfl) T.z4 T.s4 (by decide)
theorem T.fs24_0 {v : Value} {o : Nat} : aFieldAddr Try.prog 24 (.pointer (some (sadr v o))) 0 = some (.pointer (some (sadr v (o + 0)))) := T.f24_0
theorem T.fp24_0 {v0 v1 : Value} : aFieldAddr Try.prog 24 (fpv [v0, v1]) 0 = some (fpv [v0]) := faddr_fz (cells := [v0, v1]) (f := 0) (off := 0) (k := 1) Try.underlying24 (by rfl) T.z4 T.s4 (by decide) (by simp)
theorem T.fd24_0 {v0 v1 : Value} : aField Try.prog 24 (.agg ⟨[v0, v1]⟩) 0 = some v0 := field_one (cells := [v0, v1]) (f := 0) (off := 0) Try.underlying24 (by rfl) T.r4 rfl
theorem T.f24_1 {b o : Nat} : aFieldAddr Try.prog 24 (.pointer (some ⟨b, o, none⟩)) 1 = some (.pointer (some ⟨b, o + 1, none⟩)) := faddr_own Try.underlying24 (by rfl) T.z22 T.s22 (by decide)
theorem T.fs24_1 {v : Value} {o : Nat} : aFieldAddr Try.prog 24 (.pointer (some (sadr v o))) 1 = some (.pointer (some (sadr v (o + 1)))) := T.f24_1
theorem T.fp24_1 {v0 v1 : Value} : aFieldAddr Try.prog 24 (fpv [v0, v1]) 1 = some (fpv [v1]) := faddr_fz (cells := [v0, v1]) (f := 1) (off := 1) (k := 1) Try.underlying24 (by rfl) T.z22 T.s22 (by decide) (by simp)
theorem T.fd24_1 {v0 v1 : Value} : aField Try.prog 24 (.agg ⟨[v0, v1]⟩) 1 = some v1 := field_one (cells := [v0, v1]) (f := 1) (off := 1) Try.underlying24 (by rfl) T.r22 rfl
theorem T.l24 {H : Heap} {b off : Nat} : aLoad Try.prog H 24 (.pointer (some ⟨b, off, none⟩)) = (rowsAt (H.get b) off 2).map fun l => .agg ⟨l⟩ := by rw [load_row T.r24 T.z24, T.s24]
theorem T.lp24 {H : Heap} {v0 v1 : Value} : aLoad Try.prog H 24 (fpv [v0, v1]) = some (.agg ⟨[v0, v1]⟩) := load_fz_row T.r24 T.z24 T.s24 rfl
theorem T.w24 {H : Heap} {b off : Nat} {x0 : Bool} {x1 : Value} (hx1 : isSl x1 = true) : aStore Try.prog H 24 (.pointer (some ⟨b, off, none⟩)) (.agg ⟨[.bool x0, x1]⟩) = stRow H b off [.bool x0, x1] (H.get b) := store_row (vs := [.bool x0, x1]) T.z24 T.s24 rfl rfl (by simp only [List.all_cons, List.all_nil, isSl_one hx1, Bool.and_true]; rfl)
theorem T.new24 : aNew Try.prog (fun _ => none) (.alloc 24) = some (24, [.bool false, .slice none 0 0], fun b => .pointer (some ⟨b, 0, none⟩)) := by kernel_rfl
theorem T.alloc24 {H : Heap} {e : Env} {K : Value → Heap → Prop} {d : Option Tmp} {ty : TypeId} {ps : String} {af : Array Edge} {gd : Option (Nat × Bool)} : aStep Try.prog e H ⟨d, .alloc 24, ty, ps, af, gd⟩ K = K (.pointer (some ⟨H.next, 0, none⟩)) (H.push (.row true 24 [.bool false, .slice none 0 0])) := s_alloc T.new24
theorem T.l27 {H : Heap} {b off : Nat} : aLoad Try.prog H 95 (.pointer (some ⟨b, off, none⟩)) = rowAt (H.get b) off := load_one T.r27
theorem T.lp27 {H : Heap} {v : Value} : aLoad Try.prog H 95 (fpv [v]) = some v := load_fz_one T.r27
theorem T.w27 {H : Heap} {b off : Nat} {x : Int}  : aStore Try.prog H 95 (.pointer (some ⟨b, off, none⟩)) (.int .i64 x) = stRow H b off [.int .i64 x] (H.get b) := store_row (vs := [.int .i64 x]) T.z27 T.s27 (rfl) rfl (rfl)
theorem T.new27 : aNew Try.prog (fun _ => none) (.alloc 95) = some (95, [.int .i64 0], fun b => .pointer (some ⟨b, 0, none⟩)) := by kernel_rfl
theorem T.alloc27 {H : Heap} {e : Env} {K : Value → Heap → Prop} {d : Option Tmp} {ty : TypeId} {ps : String} {af : Array Edge} {gd : Option (Nat × Bool)} : aStep Try.prog e H ⟨d, .alloc 95, ty, ps, af, gd⟩ K = K (.pointer (some ⟨H.next, 0, none⟩)) (H.push (.row true 95 [.int .i64 0])) := s_alloc T.new27
theorem T.l50 {H : Heap} {b off : Nat} : aLoad Try.prog H 86 (.pointer (some ⟨b, off, none⟩)) = rowAt (H.get b) off := load_one T.r50
theorem T.lp50 {H : Heap} {v : Value} : aLoad Try.prog H 86 (fpv [v]) = some v := load_fz_one T.r50
theorem T.w50 {H : Heap} {b off : Nat} {x : Int}  : aStore Try.prog H 86 (.pointer (some ⟨b, off, none⟩)) (.int .u32 x) = stRow H b off [.int .u32 x] (H.get b) := store_row (vs := [.int .u32 x]) T.z50 T.s50 (rfl) rfl (rfl)
theorem T.new50 : aNew Try.prog (fun _ => none) (.alloc 86) = some (86, [.int .u32 0], fun b => .pointer (some ⟨b, 0, none⟩)) := by kernel_rfl
theorem T.alloc50 {H : Heap} {e : Env} {K : Value → Heap → Prop} {d : Option Tmp} {ty : TypeId} {ps : String} {af : Array Edge} {gd : Option (Nat × Bool)} : aStep Try.prog e H ⟨d, .alloc 86, ty, ps, af, gd⟩ K = K (.pointer (some ⟨H.next, 0, none⟩)) (H.push (.row true 86 [.int .u32 0])) := s_alloc T.new50
theorem T.f55_0 {b o : Nat} : aFieldAddr Try.prog 26 (.pointer (some ⟨b, o, none⟩)) 0 = some (.pointer (some ⟨b, o + 0, none⟩)) := faddr_own Try.underlying26 (by rfl) T.z24 T.s24 (by decide)
theorem T.fs55_0 {v : Value} {o : Nat} : aFieldAddr Try.prog 26 (.pointer (some (sadr v o))) 0 = some (.pointer (some (sadr v (o + 0)))) := T.f55_0
theorem T.fp55_0 {v0 v1 v2 v3 : Value} : aFieldAddr Try.prog 26 (fpv [v0, v1, v2, v3]) 0 = some (fpv [v0, v1]) := faddr_fz (cells := [v0, v1, v2, v3]) (f := 0) (off := 0) (k := 2) Try.underlying26 (by rfl) T.z24 T.s24 (by decide) (by simp)
theorem T.fd55_0 {v0 v1 v2 v3 : Value} : aField Try.prog 26 (.agg ⟨[v0, v1, v2, v3]⟩) 0 = some (.agg ⟨[v0, v1]⟩) := field_row (cells := [v0, v1, v2, v3]) (f := 0) (off := 0) (k := 2) Try.underlying26 (by rfl) T.r24 T.z24 T.s24
theorem T.f55_1 {b o : Nat} : aFieldAddr Try.prog 26 (.pointer (some ⟨b, o, none⟩)) 1 = some (.pointer (some ⟨b, o + 2, none⟩)) := faddr_own Try.underlying26 (by rfl) T.z24 T.s24 (by decide)
theorem T.fs55_1 {v : Value} {o : Nat} : aFieldAddr Try.prog 26 (.pointer (some (sadr v o))) 1 = some (.pointer (some (sadr v (o + 2)))) := T.f55_1
theorem T.fp55_1 {v0 v1 v2 v3 : Value} : aFieldAddr Try.prog 26 (fpv [v0, v1, v2, v3]) 1 = some (fpv [v2, v3]) := faddr_fz (cells := [v0, v1, v2, v3]) (f := 1) (off := 2) (k := 2) Try.underlying26 (by rfl) T.z24 T.s24 (by decide) (by simp)
theorem T.fd55_1 {v0 v1 v2 v3 : Value} : aField Try.prog 26 (.agg ⟨[v0, v1, v2, v3]⟩) 1 = some (.agg ⟨[v2, v3]⟩) := field_row (cells := [v0, v1, v2, v3]) (f := 1) (off := 2) (k := 2) Try.underlying26 (by rfl) T.r24 T.z24 T.s24
theorem T.l55 {H : Heap} {b off : Nat} : aLoad Try.prog H 26 (.pointer (some ⟨b, off, none⟩)) = (rowsAt (H.get b) off 4).map fun l => .agg ⟨l⟩ := by rw [load_row T.r55 T.z55, T.s55]
theorem T.lp55 {H : Heap} {v0 v1 v2 v3 : Value} : aLoad Try.prog H 26 (fpv [v0, v1, v2, v3]) = some (.agg ⟨[v0, v1, v2, v3]⟩) := load_fz_row T.r55 T.z55 T.s55 rfl
theorem T.w55 {H : Heap} {b off : Nat} {x00 : Bool} {x01 : Value} {x10 : Bool} {x11 : Value} (hx01 : isSl x01 = true) (hx11 : isSl x11 = true) : aStore Try.prog H 26 (.pointer (some ⟨b, off, none⟩)) (.agg ⟨[.bool x00, x01, .bool x10, x11]⟩) = stRow H b off [.bool x00, x01, .bool x10, x11] (H.get b) := store_row (vs := [.bool x00, x01, .bool x10, x11]) T.z55 T.s55 rfl rfl (by simp only [List.all_cons, List.all_nil, isSl_one hx01, isSl_one hx11, Bool.and_true]; rfl)
theorem T.new55 : aNew Try.prog (fun _ => none) (.alloc 26) = some (26, [.bool false, .slice none 0 0, .bool false, .slice none 0 0], fun b => .pointer (some ⟨b, 0, none⟩)) := by kernel_rfl
theorem T.alloc55 {H : Heap} {e : Env} {K : Value → Heap → Prop} {d : Option Tmp} {ty : TypeId} {ps : String} {af : Array Edge} {gd : Option (Nat × Bool)} : aStep Try.prog e H ⟨d, .alloc 26, ty, ps, af, gd⟩ K = K (.pointer (some ⟨H.next, 0, none⟩)) (H.push (.row true 26 [.bool false, .slice none 0 0, .bool false, .slice none 0 0])) := s_alloc T.new55
theorem T.l70 {H : Heap} {b off : Nat} : aLoad Try.prog H 44 (.pointer (some ⟨b, off, none⟩)) = rowAt (H.get b) off := load_one T.r70
theorem T.lp70 {H : Heap} {v : Value} : aLoad Try.prog H 44 (fpv [v]) = some v := load_fz_one T.r70
theorem T.w70 {H : Heap} {b off : Nat} {x : Value} (hx : isSl x = true) : aStore Try.prog H 44 (.pointer (some ⟨b, off, none⟩)) (x) = stRow H b off [x] (H.get b) := store_row (vs := [x]) T.z70 T.s70 (isSl_cells hx) rfl (by simp only [List.all_cons, List.all_nil, isSl_one hx, Bool.and_true])
theorem T.new70 : aNew Try.prog (fun _ => none) (.alloc 44) = some (44, [.slice none 0 0], fun b => .pointer (some ⟨b, 0, none⟩)) := by kernel_rfl
theorem T.alloc70 {H : Heap} {e : Env} {K : Value → Heap → Prop} {d : Option Tmp} {ty : TypeId} {ps : String} {af : Array Edge} {gd : Option (Nat × Bool)} : aStep Try.prog e H ⟨d, .alloc 44, ty, ps, af, gd⟩ K = K (.pointer (some ⟨H.next, 0, none⟩)) (H.push (.row true 44 [.slice none 0 0])) := s_alloc T.new70
theorem T.l72 {H : Heap} {b off : Nat} : aLoad Try.prog H 43 (.pointer (some ⟨b, off, none⟩)) = rowAt (H.get b) off := load_one T.r72
theorem T.lp72 {H : Heap} {v : Value} : aLoad Try.prog H 43 (fpv [v]) = some v := load_fz_one T.r72
theorem T.w72 {H : Heap} {b off : Nat} {x : Value} (hx : isSl x = true) : aStore Try.prog H 43 (.pointer (some ⟨b, off, none⟩)) (x) = stRow H b off [x] (H.get b) := store_row (vs := [x]) T.z72 T.s72 (isSl_cells hx) rfl (by simp only [List.all_cons, List.all_nil, isSl_one hx, Bool.and_true])
theorem T.new72 : aNew Try.prog (fun _ => none) (.alloc 43) = some (43, [.slice none 0 0], fun b => .pointer (some ⟨b, 0, none⟩)) := by kernel_rfl
theorem T.alloc72 {H : Heap} {e : Env} {K : Value → Heap → Prop} {d : Option Tmp} {ty : TypeId} {ps : String} {af : Array Edge} {gd : Option (Nat × Bool)} : aStep Try.prog e H ⟨d, .alloc 43, ty, ps, af, gd⟩ K = K (.pointer (some ⟨H.next, 0, none⟩)) (H.push (.row true 43 [.slice none 0 0])) := s_alloc T.new72
theorem T.f93_0 {b o : Nat} : aFieldAddr Try.prog 28 (.pointer (some ⟨b, o, none⟩)) 0 = some (.pointer (some ⟨b, o + 0, none⟩)) := faddr_own Try.underlying28 (by rfl) T.z3 T.s3 (by decide)
theorem T.fs93_0 {v : Value} {o : Nat} : aFieldAddr Try.prog 28 (.pointer (some (sadr v o))) 0 = some (.pointer (some (sadr v (o + 0)))) := T.f93_0
theorem T.fp93_0 {v0 v1 v2 v3 v4 : Value} : aFieldAddr Try.prog 28 (fpv [v0, v1, v2, v3, v4]) 0 = some (fpv [v0]) := faddr_fz (cells := [v0, v1, v2, v3, v4]) (f := 0) (off := 0) (k := 1) Try.underlying28 (by rfl) T.z3 T.s3 (by decide) (by simp)
theorem T.fd93_0 {v0 v1 v2 v3 v4 : Value} : aField Try.prog 28 (.agg ⟨[v0, v1, v2, v3, v4]⟩) 0 = some v0 := field_one (cells := [v0, v1, v2, v3, v4]) (f := 0) (off := 0) Try.underlying28 (by rfl) T.r3 rfl
theorem T.f93_1 {b o : Nat} : aFieldAddr Try.prog 28 (.pointer (some ⟨b, o, none⟩)) 1 = some (.pointer (some ⟨b, o + 1, none⟩)) := faddr_own Try.underlying28 (by rfl) T.z55 T.s55 (by decide)
theorem T.fs93_1 {v : Value} {o : Nat} : aFieldAddr Try.prog 28 (.pointer (some (sadr v o))) 1 = some (.pointer (some (sadr v (o + 1)))) := T.f93_1
theorem T.fp93_1 {v0 v1 v2 v3 v4 : Value} : aFieldAddr Try.prog 28 (fpv [v0, v1, v2, v3, v4]) 1 = some (fpv [v1, v2, v3, v4]) := faddr_fz (cells := [v0, v1, v2, v3, v4]) (f := 1) (off := 1) (k := 4) Try.underlying28 (by rfl) T.z55 T.s55 (by decide) (by simp)
theorem T.fd93_1 {v0 v1 v2 v3 v4 : Value} : aField Try.prog 28 (.agg ⟨[v0, v1, v2, v3, v4]⟩) 1 = some (.agg ⟨[v1, v2, v3, v4]⟩) := field_row (cells := [v0, v1, v2, v3, v4]) (f := 1) (off := 1) (k := 4) Try.underlying28 (by rfl) T.r55 T.z55 T.s55
theorem T.l93 {H : Heap} {b off : Nat} : aLoad Try.prog H 28 (.pointer (some ⟨b, off, none⟩)) = (rowsAt (H.get b) off 5).map fun l => .agg ⟨l⟩ := by rw [load_row T.r93 T.z93, T.s93]
theorem T.lp93 {H : Heap} {v0 v1 v2 v3 v4 : Value} : aLoad Try.prog H 28 (fpv [v0, v1, v2, v3, v4]) = some (.agg ⟨[v0, v1, v2, v3, v4]⟩) := load_fz_row T.r93 T.z93 T.s93 rfl
theorem T.w93 {H : Heap} {b off : Nat} {x0 : Int} {x100 : Bool} {x101 : Value} {x110 : Bool} {x111 : Value} (hx101 : isSl x101 = true) (hx111 : isSl x111 = true) : aStore Try.prog H 28 (.pointer (some ⟨b, off, none⟩)) (.agg ⟨[.int .i64 x0, .bool x100, x101, .bool x110, x111]⟩) = stRow H b off [.int .i64 x0, .bool x100, x101, .bool x110, x111] (H.get b) := store_row (vs := [.int .i64 x0, .bool x100, x101, .bool x110, x111]) T.z93 T.s93 rfl rfl (by simp only [List.all_cons, List.all_nil, isSl_one hx101, isSl_one hx111, Bool.and_true]; rfl)
theorem T.new93 : aNew Try.prog (fun _ => none) (.alloc 28) = some (28, [.int .i64 0, .bool false, .slice none 0 0, .bool false, .slice none 0 0], fun b => .pointer (some ⟨b, 0, none⟩)) := by kernel_rfl
theorem T.alloc93 {H : Heap} {e : Env} {K : Value → Heap → Prop} {d : Option Tmp} {ty : TypeId} {ps : String} {af : Array Edge} {gd : Option (Nat × Bool)} : aStep Try.prog e H ⟨d, .alloc 28, ty, ps, af, gd⟩ K = K (.pointer (some ⟨H.next, 0, none⟩)) (H.push (.row true 28 [.int .i64 0, .bool false, .slice none 0 0, .bool false, .slice none 0 0])) := s_alloc T.new93
theorem T.l100 {H : Heap} {b off : Nat} : aLoad Try.prog H 36 (.pointer (some ⟨b, off, none⟩)) = rowAt (H.get b) off := load_one T.r100
theorem T.lp100 {H : Heap} {v : Value} : aLoad Try.prog H 36 (fpv [v]) = some v := load_fz_one T.r100
theorem T.w100 {H : Heap} {b off : Nat} {x : Value} (hx : isSl x = true) : aStore Try.prog H 36 (.pointer (some ⟨b, off, none⟩)) (x) = stRow H b off [x] (H.get b) := store_row (vs := [x]) T.z100 T.s100 (isSl_cells hx) rfl (by simp only [List.all_cons, List.all_nil, isSl_one hx, Bool.and_true])
theorem T.new100 : aNew Try.prog (fun _ => none) (.alloc 36) = some (36, [.slice none 0 0], fun b => .pointer (some ⟨b, 0, none⟩)) := by kernel_rfl
theorem T.alloc100 {H : Heap} {e : Env} {K : Value → Heap → Prop} {d : Option Tmp} {ty : TypeId} {ps : String} {af : Array Edge} {gd : Option (Nat × Bool)} : aStep Try.prog e H ⟨d, .alloc 36, ty, ps, af, gd⟩ K = K (.pointer (some ⟨H.next, 0, none⟩)) (H.push (.row true 36 [.slice none 0 0])) := s_alloc T.new100
theorem T.f107_0 {b o : Nat} : aFieldAddr Try.prog 46 (.pointer (some ⟨b, o, none⟩)) 0 = some (.pointer (some ⟨b, o + 0, none⟩)) := faddr_own Try.underlying46 (by rfl) T.z3 T.s3 (by decide)
theorem T.fs107_0 {v : Value} {o : Nat} : aFieldAddr Try.prog 46 (.pointer (some (sadr v o))) 0 = some (.pointer (some (sadr v (o + 0)))) := T.f107_0
theorem T.fp107_0 {v0 v1 v2 v3 : Value} : aFieldAddr Try.prog 46 (fpv [v0, v1, v2, v3]) 0 = some (fpv [v0]) := faddr_fz (cells := [v0, v1, v2, v3]) (f := 0) (off := 0) (k := 1) Try.underlying46 (by rfl) T.z3 T.s3 (by decide) (by simp)
theorem T.fd107_0 {v0 v1 v2 v3 : Value} : aField Try.prog 46 (.agg ⟨[v0, v1, v2, v3]⟩) 0 = some v0 := field_one (cells := [v0, v1, v2, v3]) (f := 0) (off := 0) Try.underlying46 (by rfl) T.r3 rfl
theorem T.f107_1 {b o : Nat} : aFieldAddr Try.prog 46 (.pointer (some ⟨b, o, none⟩)) 1 = some (.pointer (some ⟨b, o + 1, none⟩)) := faddr_own Try.underlying46 (by rfl) T.z72 T.s72 (by decide)
theorem T.fs107_1 {v : Value} {o : Nat} : aFieldAddr Try.prog 46 (.pointer (some (sadr v o))) 1 = some (.pointer (some (sadr v (o + 1)))) := T.f107_1
theorem T.fp107_1 {v0 v1 v2 v3 : Value} : aFieldAddr Try.prog 46 (fpv [v0, v1, v2, v3]) 1 = some (fpv [v1]) := faddr_fz (cells := [v0, v1, v2, v3]) (f := 1) (off := 1) (k := 1) Try.underlying46 (by rfl) T.z72 T.s72 (by decide) (by simp)
theorem T.fd107_1 {v0 v1 v2 v3 : Value} : aField Try.prog 46 (.agg ⟨[v0, v1, v2, v3]⟩) 1 = some v1 := field_one (cells := [v0, v1, v2, v3]) (f := 1) (off := 1) Try.underlying46 (by rfl) T.r72 rfl
theorem T.f107_2 {b o : Nat} : aFieldAddr Try.prog 46 (.pointer (some ⟨b, o, none⟩)) 2 = some (.pointer (some ⟨b, o + 2, none⟩)) := faddr_own Try.underlying46 (by rfl) T.z70 T.s70 (by decide)
theorem T.fs107_2 {v : Value} {o : Nat} : aFieldAddr Try.prog 46 (.pointer (some (sadr v o))) 2 = some (.pointer (some (sadr v (o + 2)))) := T.f107_2
theorem T.fp107_2 {v0 v1 v2 v3 : Value} : aFieldAddr Try.prog 46 (fpv [v0, v1, v2, v3]) 2 = some (fpv [v2]) := faddr_fz (cells := [v0, v1, v2, v3]) (f := 2) (off := 2) (k := 1) Try.underlying46 (by rfl) T.z70 T.s70 (by decide) (by simp)
theorem T.fd107_2 {v0 v1 v2 v3 : Value} : aField Try.prog 46 (.agg ⟨[v0, v1, v2, v3]⟩) 2 = some v2 := field_one (cells := [v0, v1, v2, v3]) (f := 2) (off := 2) Try.underlying46 (by rfl) T.r70 rfl
theorem T.f107_3 {b o : Nat} : aFieldAddr Try.prog 46 (.pointer (some ⟨b, o, none⟩)) 3 = some (.pointer (some ⟨b, o + 3, none⟩)) := faddr_own Try.underlying46 (by rfl) T.z70 T.s70 (by decide)
theorem T.fs107_3 {v : Value} {o : Nat} : aFieldAddr Try.prog 46 (.pointer (some (sadr v o))) 3 = some (.pointer (some (sadr v (o + 3)))) := T.f107_3
theorem T.fp107_3 {v0 v1 v2 v3 : Value} : aFieldAddr Try.prog 46 (fpv [v0, v1, v2, v3]) 3 = some (fpv [v3]) := faddr_fz (cells := [v0, v1, v2, v3]) (f := 3) (off := 3) (k := 1) Try.underlying46 (by rfl) T.z70 T.s70 (by decide) (by simp)
theorem T.fd107_3 {v0 v1 v2 v3 : Value} : aField Try.prog 46 (.agg ⟨[v0, v1, v2, v3]⟩) 3 = some v3 := field_one (cells := [v0, v1, v2, v3]) (f := 3) (off := 3) Try.underlying46 (by rfl) T.r70 rfl
theorem T.l107 {H : Heap} {b off : Nat} : aLoad Try.prog H 46 (.pointer (some ⟨b, off, none⟩)) = (rowsAt (H.get b) off 4).map fun l => .agg ⟨l⟩ := by rw [load_row T.r107 T.z107, T.s107]
theorem T.lp107 {H : Heap} {v0 v1 v2 v3 : Value} : aLoad Try.prog H 46 (fpv [v0, v1, v2, v3]) = some (.agg ⟨[v0, v1, v2, v3]⟩) := load_fz_row T.r107 T.z107 T.s107 rfl
theorem T.w107 {H : Heap} {b off : Nat} {x0 : Int} {x1 : Value} {x2 : Value} {x3 : Value} (hx1 : isSl x1 = true) (hx2 : isSl x2 = true) (hx3 : isSl x3 = true) : aStore Try.prog H 46 (.pointer (some ⟨b, off, none⟩)) (.agg ⟨[.int .i64 x0, x1, x2, x3]⟩) = stRow H b off [.int .i64 x0, x1, x2, x3] (H.get b) := store_row (vs := [.int .i64 x0, x1, x2, x3]) T.z107 T.s107 rfl rfl (by simp only [List.all_cons, List.all_nil, isSl_one hx1, isSl_one hx2, isSl_one hx3, Bool.and_true]; rfl)
theorem T.new107 : aNew Try.prog (fun _ => none) (.alloc 46) = some (46, [.int .i64 0, .slice none 0 0, .slice none 0 0, .slice none 0 0], fun b => .pointer (some ⟨b, 0, none⟩)) := by kernel_rfl
theorem T.alloc107 {H : Heap} {e : Env} {K : Value → Heap → Prop} {d : Option Tmp} {ty : TypeId} {ps : String} {af : Array Edge} {gd : Option (Nat × Bool)} : aStep Try.prog e H ⟨d, .alloc 46, ty, ps, af, gd⟩ K = K (.pointer (some ⟨H.next, 0, none⟩)) (H.push (.row true 46 [.int .i64 0, .slice none 0 0, .slice none 0 0, .slice none 0 0])) := s_alloc T.new107
theorem T.f110_0 {b o : Nat} : aFieldAddr Try.prog 49 (.pointer (some ⟨b, o, none⟩)) 0 = some (.pointer (some ⟨b, o + 0, none⟩)) := faddr_own Try.underlying49 (by rfl) T.z3 T.s3 (by decide)
theorem T.fs110_0 {v : Value} {o : Nat} : aFieldAddr Try.prog 49 (.pointer (some (sadr v o))) 0 = some (.pointer (some (sadr v (o + 0)))) := T.f110_0
theorem T.fp110_0 {v0 v1 v2 v3 v4 v5 v6 v7 : Value} : aFieldAddr Try.prog 49 (fpv [v0, v1, v2, v3, v4, v5, v6, v7]) 0 = some (fpv [v0]) := faddr_fz (cells := [v0, v1, v2, v3, v4, v5, v6, v7]) (f := 0) (off := 0) (k := 1) Try.underlying49 (by rfl) T.z3 T.s3 (by decide) (by simp)
theorem T.fd110_0 {v0 v1 v2 v3 v4 v5 v6 v7 : Value} : aField Try.prog 49 (.agg ⟨[v0, v1, v2, v3, v4, v5, v6, v7]⟩) 0 = some v0 := field_one (cells := [v0, v1, v2, v3, v4, v5, v6, v7]) (f := 0) (off := 0) Try.underlying49 (by rfl) T.r3 rfl
theorem T.f110_1 {b o : Nat} : aFieldAddr Try.prog 49 (.pointer (some ⟨b, o, none⟩)) 1 = some (.pointer (some ⟨b, o + 1, none⟩)) := faddr_own Try.underlying49 (by rfl) T.z55 T.s55 (by decide)
theorem T.fs110_1 {v : Value} {o : Nat} : aFieldAddr Try.prog 49 (.pointer (some (sadr v o))) 1 = some (.pointer (some (sadr v (o + 1)))) := T.f110_1
theorem T.fp110_1 {v0 v1 v2 v3 v4 v5 v6 v7 : Value} : aFieldAddr Try.prog 49 (fpv [v0, v1, v2, v3, v4, v5, v6, v7]) 1 = some (fpv [v1, v2, v3, v4]) := faddr_fz (cells := [v0, v1, v2, v3, v4, v5, v6, v7]) (f := 1) (off := 1) (k := 4) Try.underlying49 (by rfl) T.z55 T.s55 (by decide) (by simp)
theorem T.fd110_1 {v0 v1 v2 v3 v4 v5 v6 v7 : Value} : aField Try.prog 49 (.agg ⟨[v0, v1, v2, v3, v4, v5, v6, v7]⟩) 1 = some (.agg ⟨[v1, v2, v3, v4]⟩) := field_row (cells := [v0, v1, v2, v3, v4, v5, v6, v7]) (f := 1) (off := 1) (k := 4) Try.underlying49 (by rfl) T.r55 T.z55 T.s55
theorem T.f110_2 {b o : Nat} : aFieldAddr Try.prog 49 (.pointer (some ⟨b, o, none⟩)) 2 = some (.pointer (some ⟨b, o + 5, none⟩)) := faddr_own Try.underlying49 (by rfl) T.z70 T.s70 (by decide)
theorem T.fs110_2 {v : Value} {o : Nat} : aFieldAddr Try.prog 49 (.pointer (some (sadr v o))) 2 = some (.pointer (some (sadr v (o + 5)))) := T.f110_2
theorem T.fp110_2 {v0 v1 v2 v3 v4 v5 v6 v7 : Value} : aFieldAddr Try.prog 49 (fpv [v0, v1, v2, v3, v4, v5, v6, v7]) 2 = some (fpv [v5]) := faddr_fz (cells := [v0, v1, v2, v3, v4, v5, v6, v7]) (f := 2) (off := 5) (k := 1) Try.underlying49 (by rfl) T.z70 T.s70 (by decide) (by simp)
theorem T.fd110_2 {v0 v1 v2 v3 v4 v5 v6 v7 : Value} : aField Try.prog 49 (.agg ⟨[v0, v1, v2, v3, v4, v5, v6, v7]⟩) 2 = some v5 := field_one (cells := [v0, v1, v2, v3, v4, v5, v6, v7]) (f := 2) (off := 5) Try.underlying49 (by rfl) T.r70 rfl
theorem T.f110_3 {b o : Nat} : aFieldAddr Try.prog 49 (.pointer (some ⟨b, o, none⟩)) 3 = some (.pointer (some ⟨b, o + 6, none⟩)) := faddr_own Try.underlying49 (by rfl) T.z70 T.s70 (by decide)
theorem T.fs110_3 {v : Value} {o : Nat} : aFieldAddr Try.prog 49 (.pointer (some (sadr v o))) 3 = some (.pointer (some (sadr v (o + 6)))) := T.f110_3
theorem T.fp110_3 {v0 v1 v2 v3 v4 v5 v6 v7 : Value} : aFieldAddr Try.prog 49 (fpv [v0, v1, v2, v3, v4, v5, v6, v7]) 3 = some (fpv [v6]) := faddr_fz (cells := [v0, v1, v2, v3, v4, v5, v6, v7]) (f := 3) (off := 6) (k := 1) Try.underlying49 (by rfl) T.z70 T.s70 (by decide) (by simp)
theorem T.fd110_3 {v0 v1 v2 v3 v4 v5 v6 v7 : Value} : aField Try.prog 49 (.agg ⟨[v0, v1, v2, v3, v4, v5, v6, v7]⟩) 3 = some v6 := field_one (cells := [v0, v1, v2, v3, v4, v5, v6, v7]) (f := 3) (off := 6) Try.underlying49 (by rfl) T.r70 rfl
theorem T.f110_4 {b o : Nat} : aFieldAddr Try.prog 49 (.pointer (some ⟨b, o, none⟩)) 4 = some (.pointer (some ⟨b, o + 7, none⟩)) := faddr_own Try.underlying49 (by rfl) T.z70 T.s70 (by decide)
theorem T.fs110_4 {v : Value} {o : Nat} : aFieldAddr Try.prog 49 (.pointer (some (sadr v o))) 4 = some (.pointer (some (sadr v (o + 7)))) := T.f110_4
theorem T.fp110_4 {v0 v1 v2 v3 v4 v5 v6 v7 : Value} : aFieldAddr Try.prog 49 (fpv [v0, v1, v2, v3, v4, v5, v6, v7]) 4 = some (fpv [v7]) := faddr_fz (cells := [v0, v1, v2, v3, v4, v5, v6, v7]) (f := 4) (off := 7) (k := 1) Try.underlying49 (by rfl) T.z70 T.s70 (by decide) (by simp)
theorem T.fd110_4 {v0 v1 v2 v3 v4 v5 v6 v7 : Value} : aField Try.prog 49 (.agg ⟨[v0, v1, v2, v3, v4, v5, v6, v7]⟩) 4 = some v7 := field_one (cells := [v0, v1, v2, v3, v4, v5, v6, v7]) (f := 4) (off := 7) Try.underlying49 (by rfl) T.r70 rfl
theorem T.l110 {H : Heap} {b off : Nat} : aLoad Try.prog H 49 (.pointer (some ⟨b, off, none⟩)) = (rowsAt (H.get b) off 8).map fun l => .agg ⟨l⟩ := by rw [load_row T.r110 T.z110, T.s110]
theorem T.lp110 {H : Heap} {v0 v1 v2 v3 v4 v5 v6 v7 : Value} : aLoad Try.prog H 49 (fpv [v0, v1, v2, v3, v4, v5, v6, v7]) = some (.agg ⟨[v0, v1, v2, v3, v4, v5, v6, v7]⟩) := load_fz_row T.r110 T.z110 T.s110 rfl
theorem T.w110 {H : Heap} {b off : Nat} {x0 : Int} {x100 : Bool} {x101 : Value} {x110 : Bool} {x111 : Value} {x2 : Value} {x3 : Value} {x4 : Value} (hx101 : isSl x101 = true) (hx111 : isSl x111 = true) (hx2 : isSl x2 = true) (hx3 : isSl x3 = true) (hx4 : isSl x4 = true) : aStore Try.prog H 49 (.pointer (some ⟨b, off, none⟩)) (.agg ⟨[.int .i64 x0, .bool x100, x101, .bool x110, x111, x2, x3, x4]⟩) = stRow H b off [.int .i64 x0, .bool x100, x101, .bool x110, x111, x2, x3, x4] (H.get b) := store_row (vs := [.int .i64 x0, .bool x100, x101, .bool x110, x111, x2, x3, x4]) T.z110 T.s110 rfl rfl (by simp only [List.all_cons, List.all_nil, isSl_one hx101, isSl_one hx111, isSl_one hx2, isSl_one hx3, isSl_one hx4, Bool.and_true]; rfl)
theorem T.new110 : aNew Try.prog (fun _ => none) (.alloc 49) = some (49, [.int .i64 0, .bool false, .slice none 0 0, .bool false, .slice none 0 0, .slice none 0 0, .slice none 0 0, .slice none 0 0], fun b => .pointer (some ⟨b, 0, none⟩)) := by kernel_rfl
theorem T.alloc110 {H : Heap} {e : Env} {K : Value → Heap → Prop} {d : Option Tmp} {ty : TypeId} {ps : String} {af : Array Edge} {gd : Option (Nat × Bool)} : aStep Try.prog e H ⟨d, .alloc 49, ty, ps, af, gd⟩ K = K (.pointer (some ⟨H.next, 0, none⟩)) (H.push (.row true 49 [.int .i64 0, .bool false, .slice none 0 0, .bool false, .slice none 0 0, .slice none 0 0, .slice none 0 0, .slice none 0 0])) := s_alloc T.new110
theorem T.l114 {H : Heap} {b off : Nat} : aLoad Try.prog H 56 (.pointer (some ⟨b, off, none⟩)) = rowAt (H.get b) off := load_one T.r114
theorem T.lp114 {H : Heap} {v : Value} : aLoad Try.prog H 56 (fpv [v]) = some v := load_fz_one T.r114
theorem T.w114 {H : Heap} {b off : Nat} {x : Value} (hx : isSl x = true) : aStore Try.prog H 56 (.pointer (some ⟨b, off, none⟩)) (x) = stRow H b off [x] (H.get b) := store_row (vs := [x]) T.z114 T.s114 (isSl_cells hx) rfl (by simp only [List.all_cons, List.all_nil, isSl_one hx, Bool.and_true])
theorem T.new114 : aNew Try.prog (fun _ => none) (.alloc 56) = some (56, [.slice none 0 0], fun b => .pointer (some ⟨b, 0, none⟩)) := by kernel_rfl
theorem T.alloc114 {H : Heap} {e : Env} {K : Value → Heap → Prop} {d : Option Tmp} {ty : TypeId} {ps : String} {af : Array Edge} {gd : Option (Nat × Bool)} : aStep Try.prog e H ⟨d, .alloc 56, ty, ps, af, gd⟩ K = K (.pointer (some ⟨H.next, 0, none⟩)) (H.push (.row true 56 [.slice none 0 0])) := s_alloc T.new114
theorem T.l115 {H : Heap} {b off : Nat} : aLoad Try.prog H 57 (.pointer (some ⟨b, off, none⟩)) = rowAt (H.get b) off := load_one T.r115
theorem T.lp115 {H : Heap} {v : Value} : aLoad Try.prog H 57 (fpv [v]) = some v := load_fz_one T.r115
theorem T.w115 {H : Heap} {b off : Nat} {x : Int}  : aStore Try.prog H 57 (.pointer (some ⟨b, off, none⟩)) (.int .i8 x) = stRow H b off [.int .i8 x] (H.get b) := store_row (vs := [.int .i8 x]) T.z115 T.s115 (rfl) rfl (rfl)
theorem T.new115 : aNew Try.prog (fun _ => none) (.alloc 57) = some (57, [.int .i8 0], fun b => .pointer (some ⟨b, 0, none⟩)) := by kernel_rfl
theorem T.alloc115 {H : Heap} {e : Env} {K : Value → Heap → Prop} {d : Option Tmp} {ty : TypeId} {ps : String} {af : Array Edge} {gd : Option (Nat × Bool)} : aStep Try.prog e H ⟨d, .alloc 57, ty, ps, af, gd⟩ K = K (.pointer (some ⟨H.next, 0, none⟩)) (H.push (.row true 57 [.int .i8 0])) := s_alloc T.new115
theorem T.l116 {H : Heap} {b off : Nat} : aLoad Try.prog H 59 (.pointer (some ⟨b, off, none⟩)) = rowAt (H.get b) off := load_one T.r116
theorem T.lp116 {H : Heap} {v : Value} : aLoad Try.prog H 59 (fpv [v]) = some v := load_fz_one T.r116
theorem T.w116 {H : Heap} {b off : Nat} {x : Value} (hx : isSl x = true) : aStore Try.prog H 59 (.pointer (some ⟨b, off, none⟩)) (x) = stRow H b off [x] (H.get b) := store_row (vs := [x]) T.z116 T.s116 (isSl_cells hx) rfl (by simp only [List.all_cons, List.all_nil, isSl_one hx, Bool.and_true])
theorem T.new116 : aNew Try.prog (fun _ => none) (.alloc 59) = some (59, [.slice none 0 0], fun b => .pointer (some ⟨b, 0, none⟩)) := by kernel_rfl
theorem T.alloc116 {H : Heap} {e : Env} {K : Value → Heap → Prop} {d : Option Tmp} {ty : TypeId} {ps : String} {af : Array Edge} {gd : Option (Nat × Bool)} : aStep Try.prog e H ⟨d, .alloc 59, ty, ps, af, gd⟩ K = K (.pointer (some ⟨H.next, 0, none⟩)) (H.push (.row true 59 [.slice none 0 0])) := s_alloc T.new116
theorem T.l140 {H : Heap} {b off : Nat} : aLoad Try.prog H 109 (.pointer (some ⟨b, off, none⟩)) = rowAt (H.get b) off := load_one T.r140
theorem T.lp140 {H : Heap} {v : Value} : aLoad Try.prog H 109 (fpv [v]) = some v := load_fz_one T.r140
theorem T.w140 {H : Heap} {b off : Nat} {x : Value} (hx : isSl x = true) : aStore Try.prog H 109 (.pointer (some ⟨b, off, none⟩)) (x) = stRow H b off [x] (H.get b) := store_row (vs := [x]) T.z140 T.s140 (isSl_cells hx) rfl (by simp only [List.all_cons, List.all_nil, isSl_one hx, Bool.and_true])
theorem T.new140 : aNew Try.prog (fun _ => none) (.alloc 109) = some (109, [.slice none 0 0], fun b => .pointer (some ⟨b, 0, none⟩)) := by kernel_rfl
theorem T.alloc140 {H : Heap} {e : Env} {K : Value → Heap → Prop} {d : Option Tmp} {ty : TypeId} {ps : String} {af : Array Edge} {gd : Option (Nat × Bool)} : aStep Try.prog e H ⟨d, .alloc 109, ty, ps, af, gd⟩ K = K (.pointer (some ⟨H.next, 0, none⟩)) (H.push (.row true 109 [.slice none 0 0])) := s_alloc T.new140
theorem T.l147 {H : Heap} {b off : Nat} : aLoad Try.prog H 116 (.pointer (some ⟨b, off, none⟩)) = rowAt (H.get b) off := load_one T.r147
theorem T.lp147 {H : Heap} {v : Value} : aLoad Try.prog H 116 (fpv [v]) = some v := load_fz_one T.r147
theorem T.w147 {H : Heap} {b off : Nat} {x : Value} (hx : isSl x = true) : aStore Try.prog H 116 (.pointer (some ⟨b, off, none⟩)) (x) = stRow H b off [x] (H.get b) := store_row (vs := [x]) T.z147 T.s147 (isSl_cells hx) rfl (by simp only [List.all_cons, List.all_nil, isSl_one hx, Bool.and_true])
theorem T.new147 : aNew Try.prog (fun _ => none) (.alloc 116) = some (116, [.slice none 0 0], fun b => .pointer (some ⟨b, 0, none⟩)) := by kernel_rfl
theorem T.alloc147 {H : Heap} {e : Env} {K : Value → Heap → Prop} {d : Option Tmp} {ty : TypeId} {ps : String} {af : Array Edge} {gd : Option (Nat × Bool)} : aStep Try.prog e H ⟨d, .alloc 116, ty, ps, af, gd⟩ K = K (.pointer (some ⟨H.next, 0, none⟩)) (H.push (.row true 116 [.slice none 0 0])) := s_alloc T.new147
theorem T.l155 {H : Heap} {b off : Nat} : aLoad Try.prog H 84 (.pointer (some ⟨b, off, none⟩)) = rowAt (H.get b) off := load_one T.r155
theorem T.lp155 {H : Heap} {v : Value} : aLoad Try.prog H 84 (fpv [v]) = some v := load_fz_one T.r155
theorem T.w155 {H : Heap} {b off : Nat} {x : Int}  : aStore Try.prog H 84 (.pointer (some ⟨b, off, none⟩)) (.int .u64 x) = stRow H b off [.int .u64 x] (H.get b) := store_row (vs := [.int .u64 x]) T.z155 T.s155 (rfl) rfl (rfl)
theorem T.new155 : aNew Try.prog (fun _ => none) (.alloc 84) = some (84, [.int .u64 0], fun b => .pointer (some ⟨b, 0, none⟩)) := by kernel_rfl
theorem T.alloc155 {H : Heap} {e : Env} {K : Value → Heap → Prop} {d : Option Tmp} {ty : TypeId} {ps : String} {af : Array Edge} {gd : Option (Nat × Bool)} : aStep Try.prog e H ⟨d, .alloc 84, ty, ps, af, gd⟩ K = K (.pointer (some ⟨H.next, 0, none⟩)) (H.push (.row true 84 [.int .u64 0])) := s_alloc T.new155
theorem T.l156 {H : Heap} {b off : Nat} : aLoad Try.prog H 87 (.pointer (some ⟨b, off, none⟩)) = rowAt (H.get b) off := load_one T.r156
theorem T.lp156 {H : Heap} {v : Value} : aLoad Try.prog H 87 (fpv [v]) = some v := load_fz_one T.r156
theorem T.w156 {H : Heap} {b off : Nat} {x : Int}  : aStore Try.prog H 87 (.pointer (some ⟨b, off, none⟩)) (.int .u64 x) = stRow H b off [.int .u64 x] (H.get b) := store_row (vs := [.int .u64 x]) T.z156 T.s156 (rfl) rfl (rfl)
theorem T.new156 : aNew Try.prog (fun _ => none) (.alloc 87) = some (87, [.int .u64 0], fun b => .pointer (some ⟨b, 0, none⟩)) := by kernel_rfl
theorem T.alloc156 {H : Heap} {e : Env} {K : Value → Heap → Prop} {d : Option Tmp} {ty : TypeId} {ps : String} {af : Array Edge} {gd : Option (Nat × Bool)} : aStep Try.prog e H ⟨d, .alloc 87, ty, ps, af, gd⟩ K = K (.pointer (some ⟨H.next, 0, none⟩)) (H.push (.row true 87 [.int .u64 0])) := s_alloc T.new156
theorem T.e4 {x y : Operand} {a b : Bool} : aBin Try.prog .eql 4 x y (.bool a) (.bool b) = some (.bool (a == b)) := bin_beql Try.underlying4
theorem T.n4 {x y : Operand} {a b : Bool} : aBin Try.prog .neq 4 x y (.bool a) (.bool b) = some (.bool (a != b)) := bin_bneq Try.underlying4
theorem T.c2_2 {H : Heap} {k : IntKind} {n : Int} : aConv Try.prog H 2 2 (.int k n) = some (.int .i64 (IntKind.i64.wrap n)) := conv_int T.i2 Try.underlying2 Try.underlying2
theorem T.c2_3 {H : Heap} {k : IntKind} {n : Int} : aConv Try.prog H 2 3 (.int k n) = some (.int .i64 (IntKind.i64.wrap n)) := conv_int T.i2 Try.underlying2 Try.underlying3
theorem T.c2_5 {H : Heap} {k : IntKind} {n : Int} : aConv Try.prog H 2 5 (.int k n) = some (.int .u8 (IntKind.u8.wrap n)) := conv_int T.i2 Try.underlying2 Try.underlying5
theorem T.c2_27 {H : Heap} {k : IntKind} {n : Int} : aConv Try.prog H 2 95 (.int k n) = some (.int .i64 (IntKind.i64.wrap n)) := conv_int T.i2 Try.underlying2 Try.underlying95
theorem T.c2_50 {H : Heap} {k : IntKind} {n : Int} : aConv Try.prog H 2 86 (.int k n) = some (.int .u32 (IntKind.u32.wrap n)) := conv_int T.i2 Try.underlying2 Try.underlying86
theorem T.c2_115 {H : Heap} {k : IntKind} {n : Int} : aConv Try.prog H 2 57 (.int k n) = some (.int .i8 (IntKind.i8.wrap n)) := conv_int T.i2 Try.underlying2 Try.underlying57
theorem T.c2_155 {H : Heap} {k : IntKind} {n : Int} : aConv Try.prog H 2 84 (.int k n) = some (.int .u64 (IntKind.u64.wrap n)) := conv_int T.i2 Try.underlying2 Try.underlying84
theorem T.c2_156 {H : Heap} {k : IntKind} {n : Int} : aConv Try.prog H 2 87 (.int k n) = some (.int .u64 (IntKind.u64.wrap n)) := conv_int T.i2 Try.underlying2 Try.underlying87
theorem T.c3_2 {H : Heap} {k : IntKind} {n : Int} : aConv Try.prog H 3 2 (.int k n) = some (.int .i64 (IntKind.i64.wrap n)) := conv_int T.i3 Try.underlying3 Try.underlying2
theorem T.c3_3 {H : Heap} {k : IntKind} {n : Int} : aConv Try.prog H 3 3 (.int k n) = some (.int .i64 (IntKind.i64.wrap n)) := conv_int T.i3 Try.underlying3 Try.underlying3
theorem T.c3_5 {H : Heap} {k : IntKind} {n : Int} : aConv Try.prog H 3 5 (.int k n) = some (.int .u8 (IntKind.u8.wrap n)) := conv_int T.i3 Try.underlying3 Try.underlying5
theorem T.c3_27 {H : Heap} {k : IntKind} {n : Int} : aConv Try.prog H 3 95 (.int k n) = some (.int .i64 (IntKind.i64.wrap n)) := conv_int T.i3 Try.underlying3 Try.underlying95
theorem T.c3_50 {H : Heap} {k : IntKind} {n : Int} : aConv Try.prog H 3 86 (.int k n) = some (.int .u32 (IntKind.u32.wrap n)) := conv_int T.i3 Try.underlying3 Try.underlying86
theorem T.c3_115 {H : Heap} {k : IntKind} {n : Int} : aConv Try.prog H 3 57 (.int k n) = some (.int .i8 (IntKind.i8.wrap n)) := conv_int T.i3 Try.underlying3 Try.underlying57
theorem T.c3_155 {H : Heap} {k : IntKind} {n : Int} : aConv Try.prog H 3 84 (.int k n) = some (.int .u64 (IntKind.u64.wrap n)) := conv_int T.i3 Try.underlying3 Try.underlying84
theorem T.c3_156 {H : Heap} {k : IntKind} {n : Int} : aConv Try.prog H 3 87 (.int k n) = some (.int .u64 (IntKind.u64.wrap n)) := conv_int T.i3 Try.underlying3 Try.underlying87
theorem T.c5_2 {H : Heap} {k : IntKind} {n : Int} : aConv Try.prog H 5 2 (.int k n) = some (.int .i64 (IntKind.i64.wrap n)) := conv_int T.i5 Try.underlying5 Try.underlying2
theorem T.c5_3 {H : Heap} {k : IntKind} {n : Int} : aConv Try.prog H 5 3 (.int k n) = some (.int .i64 (IntKind.i64.wrap n)) := conv_int T.i5 Try.underlying5 Try.underlying3
theorem T.c5_5 {H : Heap} {k : IntKind} {n : Int} : aConv Try.prog H 5 5 (.int k n) = some (.int .u8 (IntKind.u8.wrap n)) := conv_int T.i5 Try.underlying5 Try.underlying5
theorem T.c5_27 {H : Heap} {k : IntKind} {n : Int} : aConv Try.prog H 5 95 (.int k n) = some (.int .i64 (IntKind.i64.wrap n)) := conv_int T.i5 Try.underlying5 Try.underlying95
theorem T.c5_50 {H : Heap} {k : IntKind} {n : Int} : aConv Try.prog H 5 86 (.int k n) = some (.int .u32 (IntKind.u32.wrap n)) := conv_int T.i5 Try.underlying5 Try.underlying86
theorem T.c5_115 {H : Heap} {k : IntKind} {n : Int} : aConv Try.prog H 5 57 (.int k n) = some (.int .i8 (IntKind.i8.wrap n)) := conv_int T.i5 Try.underlying5 Try.underlying57
theorem T.c5_155 {H : Heap} {k : IntKind} {n : Int} : aConv Try.prog H 5 84 (.int k n) = some (.int .u64 (IntKind.u64.wrap n)) := conv_int T.i5 Try.underlying5 Try.underlying84
theorem T.c5_156 {H : Heap} {k : IntKind} {n : Int} : aConv Try.prog H 5 87 (.int k n) = some (.int .u64 (IntKind.u64.wrap n)) := conv_int T.i5 Try.underlying5 Try.underlying87
theorem T.c27_2 {H : Heap} {k : IntKind} {n : Int} : aConv Try.prog H 95 2 (.int k n) = some (.int .i64 (IntKind.i64.wrap n)) := conv_int T.i27 Try.underlying95 Try.underlying2
theorem T.c27_3 {H : Heap} {k : IntKind} {n : Int} : aConv Try.prog H 95 3 (.int k n) = some (.int .i64 (IntKind.i64.wrap n)) := conv_int T.i27 Try.underlying95 Try.underlying3
theorem T.c27_5 {H : Heap} {k : IntKind} {n : Int} : aConv Try.prog H 95 5 (.int k n) = some (.int .u8 (IntKind.u8.wrap n)) := conv_int T.i27 Try.underlying95 Try.underlying5
theorem T.c27_27 {H : Heap} {k : IntKind} {n : Int} : aConv Try.prog H 95 95 (.int k n) = some (.int .i64 (IntKind.i64.wrap n)) := conv_int T.i27 Try.underlying95 Try.underlying95
theorem T.c27_50 {H : Heap} {k : IntKind} {n : Int} : aConv Try.prog H 95 86 (.int k n) = some (.int .u32 (IntKind.u32.wrap n)) := conv_int T.i27 Try.underlying95 Try.underlying86
theorem T.c27_115 {H : Heap} {k : IntKind} {n : Int} : aConv Try.prog H 95 57 (.int k n) = some (.int .i8 (IntKind.i8.wrap n)) := conv_int T.i27 Try.underlying95 Try.underlying57
theorem T.c27_155 {H : Heap} {k : IntKind} {n : Int} : aConv Try.prog H 95 84 (.int k n) = some (.int .u64 (IntKind.u64.wrap n)) := conv_int T.i27 Try.underlying95 Try.underlying84
theorem T.c27_156 {H : Heap} {k : IntKind} {n : Int} : aConv Try.prog H 95 87 (.int k n) = some (.int .u64 (IntKind.u64.wrap n)) := conv_int T.i27 Try.underlying95 Try.underlying87
theorem T.c50_2 {H : Heap} {k : IntKind} {n : Int} : aConv Try.prog H 86 2 (.int k n) = some (.int .i64 (IntKind.i64.wrap n)) := conv_int T.i50 Try.underlying86 Try.underlying2
theorem T.c50_3 {H : Heap} {k : IntKind} {n : Int} : aConv Try.prog H 86 3 (.int k n) = some (.int .i64 (IntKind.i64.wrap n)) := conv_int T.i50 Try.underlying86 Try.underlying3
theorem T.c50_5 {H : Heap} {k : IntKind} {n : Int} : aConv Try.prog H 86 5 (.int k n) = some (.int .u8 (IntKind.u8.wrap n)) := conv_int T.i50 Try.underlying86 Try.underlying5
theorem T.c50_27 {H : Heap} {k : IntKind} {n : Int} : aConv Try.prog H 86 95 (.int k n) = some (.int .i64 (IntKind.i64.wrap n)) := conv_int T.i50 Try.underlying86 Try.underlying95
theorem T.c50_50 {H : Heap} {k : IntKind} {n : Int} : aConv Try.prog H 86 86 (.int k n) = some (.int .u32 (IntKind.u32.wrap n)) := conv_int T.i50 Try.underlying86 Try.underlying86
theorem T.c50_115 {H : Heap} {k : IntKind} {n : Int} : aConv Try.prog H 86 57 (.int k n) = some (.int .i8 (IntKind.i8.wrap n)) := conv_int T.i50 Try.underlying86 Try.underlying57
theorem T.c50_155 {H : Heap} {k : IntKind} {n : Int} : aConv Try.prog H 86 84 (.int k n) = some (.int .u64 (IntKind.u64.wrap n)) := conv_int T.i50 Try.underlying86 Try.underlying84
theorem T.c50_156 {H : Heap} {k : IntKind} {n : Int} : aConv Try.prog H 86 87 (.int k n) = some (.int .u64 (IntKind.u64.wrap n)) := conv_int T.i50 Try.underlying86 Try.underlying87
theorem T.c115_2 {H : Heap} {k : IntKind} {n : Int} : aConv Try.prog H 57 2 (.int k n) = some (.int .i64 (IntKind.i64.wrap n)) := conv_int T.i115 Try.underlying57 Try.underlying2
theorem T.c115_3 {H : Heap} {k : IntKind} {n : Int} : aConv Try.prog H 57 3 (.int k n) = some (.int .i64 (IntKind.i64.wrap n)) := conv_int T.i115 Try.underlying57 Try.underlying3
theorem T.c115_5 {H : Heap} {k : IntKind} {n : Int} : aConv Try.prog H 57 5 (.int k n) = some (.int .u8 (IntKind.u8.wrap n)) := conv_int T.i115 Try.underlying57 Try.underlying5
theorem T.c115_27 {H : Heap} {k : IntKind} {n : Int} : aConv Try.prog H 57 95 (.int k n) = some (.int .i64 (IntKind.i64.wrap n)) := conv_int T.i115 Try.underlying57 Try.underlying95
theorem T.c115_50 {H : Heap} {k : IntKind} {n : Int} : aConv Try.prog H 57 86 (.int k n) = some (.int .u32 (IntKind.u32.wrap n)) := conv_int T.i115 Try.underlying57 Try.underlying86
theorem T.c115_115 {H : Heap} {k : IntKind} {n : Int} : aConv Try.prog H 57 57 (.int k n) = some (.int .i8 (IntKind.i8.wrap n)) := conv_int T.i115 Try.underlying57 Try.underlying57
theorem T.c115_155 {H : Heap} {k : IntKind} {n : Int} : aConv Try.prog H 57 84 (.int k n) = some (.int .u64 (IntKind.u64.wrap n)) := conv_int T.i115 Try.underlying57 Try.underlying84
theorem T.c115_156 {H : Heap} {k : IntKind} {n : Int} : aConv Try.prog H 57 87 (.int k n) = some (.int .u64 (IntKind.u64.wrap n)) := conv_int T.i115 Try.underlying57 Try.underlying87
theorem T.c155_2 {H : Heap} {k : IntKind} {n : Int} : aConv Try.prog H 84 2 (.int k n) = some (.int .i64 (IntKind.i64.wrap n)) := conv_int T.i155 Try.underlying84 Try.underlying2
theorem T.c155_3 {H : Heap} {k : IntKind} {n : Int} : aConv Try.prog H 84 3 (.int k n) = some (.int .i64 (IntKind.i64.wrap n)) := conv_int T.i155 Try.underlying84 Try.underlying3
theorem T.c155_5 {H : Heap} {k : IntKind} {n : Int} : aConv Try.prog H 84 5 (.int k n) = some (.int .u8 (IntKind.u8.wrap n)) := conv_int T.i155 Try.underlying84 Try.underlying5
theorem T.c155_27 {H : Heap} {k : IntKind} {n : Int} : aConv Try.prog H 84 95 (.int k n) = some (.int .i64 (IntKind.i64.wrap n)) := conv_int T.i155 Try.underlying84 Try.underlying95
theorem T.c155_50 {H : Heap} {k : IntKind} {n : Int} : aConv Try.prog H 84 86 (.int k n) = some (.int .u32 (IntKind.u32.wrap n)) := conv_int T.i155 Try.underlying84 Try.underlying86
theorem T.c155_115 {H : Heap} {k : IntKind} {n : Int} : aConv Try.prog H 84 57 (.int k n) = some (.int .i8 (IntKind.i8.wrap n)) := conv_int T.i155 Try.underlying84 Try.underlying57
theorem T.c155_155 {H : Heap} {k : IntKind} {n : Int} : aConv Try.prog H 84 84 (.int k n) = some (.int .u64 (IntKind.u64.wrap n)) := conv_int T.i155 Try.underlying84 Try.underlying84
theorem T.c155_156 {H : Heap} {k : IntKind} {n : Int} : aConv Try.prog H 84 87 (.int k n) = some (.int .u64 (IntKind.u64.wrap n)) := conv_int T.i155 Try.underlying84 Try.underlying87
theorem T.c156_2 {H : Heap} {k : IntKind} {n : Int} : aConv Try.prog H 87 2 (.int k n) = some (.int .i64 (IntKind.i64.wrap n)) := conv_int T.i156 Try.underlying87 Try.underlying2
theorem T.c156_3 {H : Heap} {k : IntKind} {n : Int} : aConv Try.prog H 87 3 (.int k n) = some (.int .i64 (IntKind.i64.wrap n)) := conv_int T.i156 Try.underlying87 Try.underlying3
theorem T.c156_5 {H : Heap} {k : IntKind} {n : Int} : aConv Try.prog H 87 5 (.int k n) = some (.int .u8 (IntKind.u8.wrap n)) := conv_int T.i156 Try.underlying87 Try.underlying5
theorem T.c156_27 {H : Heap} {k : IntKind} {n : Int} : aConv Try.prog H 87 95 (.int k n) = some (.int .i64 (IntKind.i64.wrap n)) := conv_int T.i156 Try.underlying87 Try.underlying95
theorem T.c156_50 {H : Heap} {k : IntKind} {n : Int} : aConv Try.prog H 87 86 (.int k n) = some (.int .u32 (IntKind.u32.wrap n)) := conv_int T.i156 Try.underlying87 Try.underlying86
theorem T.c156_115 {H : Heap} {k : IntKind} {n : Int} : aConv Try.prog H 87 57 (.int k n) = some (.int .i8 (IntKind.i8.wrap n)) := conv_int T.i156 Try.underlying87 Try.underlying57
theorem T.c156_155 {H : Heap} {k : IntKind} {n : Int} : aConv Try.prog H 87 84 (.int k n) = some (.int .u64 (IntKind.u64.wrap n)) := conv_int T.i156 Try.underlying87 Try.underlying84
theorem T.c156_156 {H : Heap} {k : IntKind} {n : Int} : aConv Try.prog H 87 87 (.int k n) = some (.int .u64 (IntKind.u64.wrap n)) := conv_int T.i156 Try.underlying87 Try.underlying87
theorem T.parts22 {H : Heap} {e : Env} {K : Value → Heap → Prop} {d : Option Tmp} {ty : TypeId} {ps : String} {af : Array Edge} {gd : Option (Nat × Bool)} {parts : List (Nat × Operand)} {len : Nat} (hlen : len ≤ 2 ^ 24) : aStep Try.prog e H ⟨d, .buildSlice 22 len ⟨parts⟩, ty, ps, af, gd⟩ K = ob (evps e parts) fun vs => ob (pFill (.int .u32 0) len vs) fun cs => K (.slice (some ⟨H.next, 0, none⟩) len len) (H.push (.row true 86 cs)) :=
  s_parts Try.underlying22 (info_of_type Try.type86) (z := .int .u32 0) rfl rfl rfl rfl hlen
theorem T.make22 {H : Heap} {e : Env} {K : Value → Heap → Prop} {d : Option Tmp} {ty : TypeId} {ps : String} {af : Array Edge} {gd : Option (Nat × Bool)} {x y : Operand} : aStep Try.prog e H ⟨d, .makeSlice 22 x y, ty, ps, af, gd⟩ K = ob (e x) fun a => ob (e y) fun b => ob (aMk 4 a b) fun p => K (.slice (some ⟨H.next, 0, none⟩) p.1 p.2) (H.push (.row true 86 (List.replicate p.2 (.int .u32 0)))) :=
  s_make Try.underlying22 (info_of_type Try.type86) (z := .int .u32 0) rfl rfl rfl rfl
theorem T.nil22 {x y : Operand} {v : Value} (h : isSlc v = true) {n c : Nat} : aBin Try.prog .eql 22 x y v (.slice none n c) = some (.bool (isNil v)) := bin_isNil Try.underlying22 h
theorem T.lz22 {n : Nat} {cells : List Value} : aLen Try.prog 22 (fzv n cells) = some (.int .i64 n) := len_fz T.i22
theorem T.lv22 {α : Type} {e : En α} {l : List α} : aLen Try.prog 22 (Vv e l) = some (.int .i64 l.length) := len_fz T.i22
theorem T.iv22 {l : List _} {k : IntKind} {i : Int} (h0 : 0 ≤ i) (h1 : i < l.length) : aIndexAddr Try.prog 22 (Vv eU l) (.int k i) = some (fpv (eU.enc (l.getD i.toNat eU.d))) := idx_Vv Try.underlying22 T.s50 T.z50 rfl h0 h1
theorem T.up22 {H : Heap} {l : List _} {k : IntKind} {i : Int} (h0 : 0 ≤ i) (h1 : i ≤ l.length) : aSlice Try.prog H 22 (Vv eU l) none (some (.int k i)) none = some (Vv eU (l.take i.toNat)) := upto_Vv Try.underlying22 T.s50 T.z50 rfl h0 h1
theorem T.fr22 {H : Heap} {l : List _} {k : IntKind} {i : Int} (h0 : 0 ≤ i) (h1 : i ≤ l.length) : aSlice Try.prog H 22 (Vv eU l) (some (.int k i)) none none = some (Vv eU (l.drop i.toNat)) := from_Vv Try.underlying22 T.s50 T.z50 rfl h0 h1
theorem T.ln22 : aLen Try.prog 22 (.slice none 0 0) = some (.int .i64 0) := len_nil T.i22
theorem T.rows70 {H : Heap} {e : Env} {K : Value → Heap → Prop} {d : Option Tmp} {ty : TypeId} {ps : String} {af : Array Edge} {gd : Option (Nat × Bool)} {parts : List (Nat × Operand)} {len : Nat} (hlen : len ≤ 2 ^ 20) : aStep Try.prog e H ⟨d, .buildSlice 44 len ⟨parts⟩, ty, ps, af, gd⟩ K = ob (evps e parts) fun vs => ob (rFill 4 (Try.t26.zero.getD undef) len vs) fun cs => K (.slice (some ⟨H.next, 0, none⟩) len len) (H.push (.row true 26 cs)) :=
  s_rows (es := 4) Try.underlying44 (info_of_type Try.type26) (z := Try.t26.zero.getD undef) rfl rfl rfl rfl (by omega) (by omega)
theorem T.makes70 {H : Heap} {e : Env} {K : Value → Heap → Prop} {d : Option Tmp} {ty : TypeId} {ps : String} {af : Array Edge} {gd : Option (Nat × Bool)} {x y : Operand} : aStep Try.prog e H ⟨d, .makeSlice 44 x y, ty, ps, af, gd⟩ K = ob (e x) fun a => ob (e y) fun b => ob (aMk 64 a b) fun p => K (.slice (some ⟨H.next, 0, none⟩) p.1 p.2) (H.push (.row true 26 (repC p.2 [.bool false, .slice none 0 0, .bool false, .slice none 0 0]))) :=
  s_makes (info_of_type Try.type26) Try.underlying44 rfl ⟨rfl, rfl, by decide⟩ rfl
theorem T.nil70 {x y : Operand} {v : Value} (h : isSlc v = true) {n c : Nat} : aBin Try.prog .eql 44 x y v (.slice none n c) = some (.bool (isNil v)) := bin_isNil Try.underlying44 h
theorem T.lz70 {n : Nat} {cells : List Value} : aLen Try.prog 44 (fzv n cells) = some (.int .i64 n) := len_fz T.i70
theorem T.lv70 {α : Type} {e : En α} {l : List α} : aLen Try.prog 44 (Vv e l) = some (.int .i64 l.length) := len_fz T.i70
theorem T.iv70 {l : List _} {k : IntKind} {i : Int} (h0 : 0 ≤ i) (h1 : i < l.length) : aIndexAddr Try.prog 44 (Vv eQ l) (.int k i) = some (fpv (eQ.enc (l.getD i.toNat eQ.d))) := idx_Vv Try.underlying44 T.s55 T.z55 rfl h0 h1
theorem T.up70 {H : Heap} {l : List _} {k : IntKind} {i : Int} (h0 : 0 ≤ i) (h1 : i ≤ l.length) : aSlice Try.prog H 44 (Vv eQ l) none (some (.int k i)) none = some (Vv eQ (l.take i.toNat)) := upto_Vv Try.underlying44 T.s55 T.z55 rfl h0 h1
theorem T.fr70 {H : Heap} {l : List _} {k : IntKind} {i : Int} (h0 : 0 ≤ i) (h1 : i ≤ l.length) : aSlice Try.prog H 44 (Vv eQ l) (some (.int k i)) none none = some (Vv eQ (l.drop i.toNat)) := from_Vv Try.underlying44 T.s55 T.z55 rfl h0 h1
theorem T.ln70 : aLen Try.prog 44 (.slice none 0 0) = some (.int .i64 0) := len_nil T.i70
theorem T.parts72 {H : Heap} {e : Env} {K : Value → Heap → Prop} {d : Option Tmp} {ty : TypeId} {ps : String} {af : Array Edge} {gd : Option (Nat × Bool)} {parts : List (Nat × Operand)} {len : Nat} (hlen : len ≤ 2 ^ 24) : aStep Try.prog e H ⟨d, .buildSlice 43 len ⟨parts⟩, ty, ps, af, gd⟩ K = ob (evps e parts) fun vs => ob (pFill (.slice none 0 0) len vs) fun cs => K (.slice (some ⟨H.next, 0, none⟩) len len) (H.push (.row true 44 cs)) :=
  s_parts Try.underlying43 (info_of_type Try.type44) (z := .slice none 0 0) rfl rfl rfl rfl hlen
theorem T.make72 {H : Heap} {e : Env} {K : Value → Heap → Prop} {d : Option Tmp} {ty : TypeId} {ps : String} {af : Array Edge} {gd : Option (Nat × Bool)} {x y : Operand} : aStep Try.prog e H ⟨d, .makeSlice 43 x y, ty, ps, af, gd⟩ K = ob (e x) fun a => ob (e y) fun b => ob (aMk 24 a b) fun p => K (.slice (some ⟨H.next, 0, none⟩) p.1 p.2) (H.push (.row true 44 (List.replicate p.2 (.slice none 0 0)))) :=
  s_make Try.underlying43 (info_of_type Try.type44) (z := .slice none 0 0) rfl rfl rfl rfl
theorem T.nil72 {x y : Operand} {v : Value} (h : isSlc v = true) {n c : Nat} : aBin Try.prog .eql 43 x y v (.slice none n c) = some (.bool (isNil v)) := bin_isNil Try.underlying43 h
theorem T.lz72 {n : Nat} {cells : List Value} : aLen Try.prog 43 (fzv n cells) = some (.int .i64 n) := len_fz T.i72
theorem T.lv72 {α : Type} {e : En α} {l : List α} : aLen Try.prog 43 (Vv e l) = some (.int .i64 l.length) := len_fz T.i72
theorem T.iv72 {l : List _} {k : IntKind} {i : Int} (h0 : 0 ≤ i) (h1 : i < l.length) : aIndexAddr Try.prog 43 (Vv eR l) (.int k i) = some (fpv (eR.enc (l.getD i.toNat eR.d))) := idx_Vv Try.underlying43 T.s70 T.z70 rfl h0 h1
theorem T.up72 {H : Heap} {l : List _} {k : IntKind} {i : Int} (h0 : 0 ≤ i) (h1 : i ≤ l.length) : aSlice Try.prog H 43 (Vv eR l) none (some (.int k i)) none = some (Vv eR (l.take i.toNat)) := upto_Vv Try.underlying43 T.s70 T.z70 rfl h0 h1
theorem T.fr72 {H : Heap} {l : List _} {k : IntKind} {i : Int} (h0 : 0 ≤ i) (h1 : i ≤ l.length) : aSlice Try.prog H 43 (Vv eR l) (some (.int k i)) none none = some (Vv eR (l.drop i.toNat)) := from_Vv Try.underlying43 T.s70 T.z70 rfl h0 h1
theorem T.ln72 : aLen Try.prog 43 (.slice none 0 0) = some (.int .i64 0) := len_nil T.i72
theorem T.rows100 {H : Heap} {e : Env} {K : Value → Heap → Prop} {d : Option Tmp} {ty : TypeId} {ps : String} {af : Array Edge} {gd : Option (Nat × Bool)} {parts : List (Nat × Operand)} {len : Nat} (hlen : len ≤ 2 ^ 20) : aStep Try.prog e H ⟨d, .buildSlice 36 len ⟨parts⟩, ty, ps, af, gd⟩ K = ob (evps e parts) fun vs => ob (rFill 5 (Try.t28.zero.getD undef) len vs) fun cs => K (.slice (some ⟨H.next, 0, none⟩) len len) (H.push (.row true 28 cs)) :=
  s_rows (es := 5) Try.underlying36 (info_of_type Try.type28) (z := Try.t28.zero.getD undef) rfl rfl rfl rfl (by omega) (by omega)
theorem T.makes100 {H : Heap} {e : Env} {K : Value → Heap → Prop} {d : Option Tmp} {ty : TypeId} {ps : String} {af : Array Edge} {gd : Option (Nat × Bool)} {x y : Operand} : aStep Try.prog e H ⟨d, .makeSlice 36 x y, ty, ps, af, gd⟩ K = ob (e x) fun a => ob (e y) fun b => ob (aMk 72 a b) fun p => K (.slice (some ⟨H.next, 0, none⟩) p.1 p.2) (H.push (.row true 28 (repC p.2 [.int .i64 0, .bool false, .slice none 0 0, .bool false, .slice none 0 0]))) :=
  s_makes (info_of_type Try.type28) Try.underlying36 rfl ⟨rfl, rfl, by decide⟩ rfl
theorem T.nil100 {x y : Operand} {v : Value} (h : isSlc v = true) {n c : Nat} : aBin Try.prog .eql 36 x y v (.slice none n c) = some (.bool (isNil v)) := bin_isNil Try.underlying36 h
theorem T.lz100 {n : Nat} {cells : List Value} : aLen Try.prog 36 (fzv n cells) = some (.int .i64 n) := len_fz T.i100
theorem T.lv100 {α : Type} {e : En α} {l : List α} : aLen Try.prog 36 (Vv e l) = some (.int .i64 l.length) := len_fz T.i100
theorem T.iv100 {l : List _} {k : IntKind} {i : Int} (h0 : 0 ≤ i) (h1 : i < l.length) : aIndexAddr Try.prog 36 (Vv eX l) (.int k i) = some (fpv (eX.enc (l.getD i.toNat eX.d))) := idx_Vv Try.underlying36 T.s93 T.z93 rfl h0 h1
theorem T.up100 {H : Heap} {l : List _} {k : IntKind} {i : Int} (h0 : 0 ≤ i) (h1 : i ≤ l.length) : aSlice Try.prog H 36 (Vv eX l) none (some (.int k i)) none = some (Vv eX (l.take i.toNat)) := upto_Vv Try.underlying36 T.s93 T.z93 rfl h0 h1
theorem T.fr100 {H : Heap} {l : List _} {k : IntKind} {i : Int} (h0 : 0 ≤ i) (h1 : i ≤ l.length) : aSlice Try.prog H 36 (Vv eX l) (some (.int k i)) none none = some (Vv eX (l.drop i.toNat)) := from_Vv Try.underlying36 T.s93 T.z93 rfl h0 h1
theorem T.ln100 : aLen Try.prog 36 (.slice none 0 0) = some (.int .i64 0) := len_nil T.i100
theorem T.parts114 {H : Heap} {e : Env} {K : Value → Heap → Prop} {d : Option Tmp} {ty : TypeId} {ps : String} {af : Array Edge} {gd : Option (Nat × Bool)} {parts : List (Nat × Operand)} {len : Nat} (hlen : len ≤ 2 ^ 24) : aStep Try.prog e H ⟨d, .buildSlice 56 len ⟨parts⟩, ty, ps, af, gd⟩ K = ob (evps e parts) fun vs => ob (pFill (.int .i8 0) len vs) fun cs => K (.slice (some ⟨H.next, 0, none⟩) len len) (H.push (.row true 57 cs)) :=
  s_parts Try.underlying56 (info_of_type Try.type57) (z := .int .i8 0) rfl rfl rfl rfl hlen
theorem T.make114 {H : Heap} {e : Env} {K : Value → Heap → Prop} {d : Option Tmp} {ty : TypeId} {ps : String} {af : Array Edge} {gd : Option (Nat × Bool)} {x y : Operand} : aStep Try.prog e H ⟨d, .makeSlice 56 x y, ty, ps, af, gd⟩ K = ob (e x) fun a => ob (e y) fun b => ob (aMk 1 a b) fun p => K (.slice (some ⟨H.next, 0, none⟩) p.1 p.2) (H.push (.row true 57 (List.replicate p.2 (.int .i8 0)))) :=
  s_make Try.underlying56 (info_of_type Try.type57) (z := .int .i8 0) rfl rfl rfl rfl
theorem T.nil114 {x y : Operand} {v : Value} (h : isSlc v = true) {n c : Nat} : aBin Try.prog .eql 56 x y v (.slice none n c) = some (.bool (isNil v)) := bin_isNil Try.underlying56 h
theorem T.lz114 {n : Nat} {cells : List Value} : aLen Try.prog 56 (fzv n cells) = some (.int .i64 n) := len_fz T.i114
theorem T.lv114 {α : Type} {e : En α} {l : List α} : aLen Try.prog 56 (Vv e l) = some (.int .i64 l.length) := len_fz T.i114
theorem T.iv114 {l : List _} {k : IntKind} {i : Int} (h0 : 0 ≤ i) (h1 : i < l.length) : aIndexAddr Try.prog 56 (Vv eJ l) (.int k i) = some (fpv (eJ.enc (l.getD i.toNat eJ.d))) := idx_Vv Try.underlying56 T.s115 T.z115 rfl h0 h1
theorem T.up114 {H : Heap} {l : List _} {k : IntKind} {i : Int} (h0 : 0 ≤ i) (h1 : i ≤ l.length) : aSlice Try.prog H 56 (Vv eJ l) none (some (.int k i)) none = some (Vv eJ (l.take i.toNat)) := upto_Vv Try.underlying56 T.s115 T.z115 rfl h0 h1
theorem T.fr114 {H : Heap} {l : List _} {k : IntKind} {i : Int} (h0 : 0 ≤ i) (h1 : i ≤ l.length) : aSlice Try.prog H 56 (Vv eJ l) (some (.int k i)) none none = some (Vv eJ (l.drop i.toNat)) := from_Vv Try.underlying56 T.s115 T.z115 rfl h0 h1
theorem T.ln114 : aLen Try.prog 56 (.slice none 0 0) = some (.int .i64 0) := len_nil T.i114
theorem T.parts116 {H : Heap} {e : Env} {K : Value → Heap → Prop} {d : Option Tmp} {ty : TypeId} {ps : String} {af : Array Edge} {gd : Option (Nat × Bool)} {parts : List (Nat × Operand)} {len : Nat} (hlen : len ≤ 2 ^ 24) : aStep Try.prog e H ⟨d, .buildSlice 59 len ⟨parts⟩, ty, ps, af, gd⟩ K = ob (evps e parts) fun vs => ob (pFill (.int .i64 0) len vs) fun cs => K (.slice (some ⟨H.next, 0, none⟩) len len) (H.push (.row true 2 cs)) :=
  s_parts Try.underlying59 (info_of_type Try.type2) (z := .int .i64 0) rfl rfl rfl rfl hlen
theorem T.make116 {H : Heap} {e : Env} {K : Value → Heap → Prop} {d : Option Tmp} {ty : TypeId} {ps : String} {af : Array Edge} {gd : Option (Nat × Bool)} {x y : Operand} : aStep Try.prog e H ⟨d, .makeSlice 59 x y, ty, ps, af, gd⟩ K = ob (e x) fun a => ob (e y) fun b => ob (aMk 8 a b) fun p => K (.slice (some ⟨H.next, 0, none⟩) p.1 p.2) (H.push (.row true 2 (List.replicate p.2 (.int .i64 0)))) :=
  s_make Try.underlying59 (info_of_type Try.type2) (z := .int .i64 0) rfl rfl rfl rfl
theorem T.nil116 {x y : Operand} {v : Value} (h : isSlc v = true) {n c : Nat} : aBin Try.prog .eql 59 x y v (.slice none n c) = some (.bool (isNil v)) := bin_isNil Try.underlying59 h
theorem T.lz116 {n : Nat} {cells : List Value} : aLen Try.prog 59 (fzv n cells) = some (.int .i64 n) := len_fz T.i116
theorem T.lv116 {α : Type} {e : En α} {l : List α} : aLen Try.prog 59 (Vv e l) = some (.int .i64 l.length) := len_fz T.i116
theorem T.iv116 {l : List _} {k : IntKind} {i : Int} (h0 : 0 ≤ i) (h1 : i < l.length) : aIndexAddr Try.prog 59 (Vv eN l) (.int k i) = some (fpv (eN.enc (l.getD i.toNat eN.d))) := idx_Vv Try.underlying59 T.s2 T.z2 rfl h0 h1
theorem T.up116 {H : Heap} {l : List _} {k : IntKind} {i : Int} (h0 : 0 ≤ i) (h1 : i ≤ l.length) : aSlice Try.prog H 59 (Vv eN l) none (some (.int k i)) none = some (Vv eN (l.take i.toNat)) := upto_Vv Try.underlying59 T.s2 T.z2 rfl h0 h1
theorem T.fr116 {H : Heap} {l : List _} {k : IntKind} {i : Int} (h0 : 0 ≤ i) (h1 : i ≤ l.length) : aSlice Try.prog H 59 (Vv eN l) (some (.int k i)) none none = some (Vv eN (l.drop i.toNat)) := from_Vv Try.underlying59 T.s2 T.z2 rfl h0 h1
theorem T.ln116 : aLen Try.prog 59 (.slice none 0 0) = some (.int .i64 0) := len_nil T.i116
theorem T.parts140 {H : Heap} {e : Env} {K : Value → Heap → Prop} {d : Option Tmp} {ty : TypeId} {ps : String} {af : Array Edge} {gd : Option (Nat × Bool)} {parts : List (Nat × Operand)} {len : Nat} (hlen : len ≤ 2 ^ 24) : aStep Try.prog e H ⟨d, .buildSlice 109 len ⟨parts⟩, ty, ps, af, gd⟩ K = ob (evps e parts) fun vs => ob (pFill (.int .u8 0) len vs) fun cs => K (.slice (some ⟨H.next, 0, none⟩) len len) (H.push (.row true 5 cs)) :=
  s_parts Try.underlying109 (info_of_type Try.type5) (z := .int .u8 0) rfl rfl rfl rfl hlen
theorem T.make140 {H : Heap} {e : Env} {K : Value → Heap → Prop} {d : Option Tmp} {ty : TypeId} {ps : String} {af : Array Edge} {gd : Option (Nat × Bool)} {x y : Operand} : aStep Try.prog e H ⟨d, .makeSlice 109 x y, ty, ps, af, gd⟩ K = ob (e x) fun a => ob (e y) fun b => ob (aMk 1 a b) fun p => K (.slice (some ⟨H.next, 0, none⟩) p.1 p.2) (H.push (.row true 5 (List.replicate p.2 (.int .u8 0)))) :=
  s_make Try.underlying109 (info_of_type Try.type5) (z := .int .u8 0) rfl rfl rfl rfl
theorem T.nil140 {x y : Operand} {v : Value} (h : isSlc v = true) {n c : Nat} : aBin Try.prog .eql 109 x y v (.slice none n c) = some (.bool (isNil v)) := bin_isNil Try.underlying109 h
theorem T.lz140 {n : Nat} {cells : List Value} : aLen Try.prog 109 (fzv n cells) = some (.int .i64 n) := len_fz T.i140
theorem T.lv140 {α : Type} {e : En α} {l : List α} : aLen Try.prog 109 (Vv e l) = some (.int .i64 l.length) := len_fz T.i140
theorem T.iv140 {l : List _} {k : IntKind} {i : Int} (h0 : 0 ≤ i) (h1 : i < l.length) : aIndexAddr Try.prog 109 (Vv eY l) (.int k i) = some (fpv (eY.enc (l.getD i.toNat eY.d))) := idx_Vv Try.underlying109 T.s5 T.z5 rfl h0 h1
theorem T.up140 {H : Heap} {l : List _} {k : IntKind} {i : Int} (h0 : 0 ≤ i) (h1 : i ≤ l.length) : aSlice Try.prog H 109 (Vv eY l) none (some (.int k i)) none = some (Vv eY (l.take i.toNat)) := upto_Vv Try.underlying109 T.s5 T.z5 rfl h0 h1
theorem T.fr140 {H : Heap} {l : List _} {k : IntKind} {i : Int} (h0 : 0 ≤ i) (h1 : i ≤ l.length) : aSlice Try.prog H 109 (Vv eY l) (some (.int k i)) none none = some (Vv eY (l.drop i.toNat)) := from_Vv Try.underlying109 T.s5 T.z5 rfl h0 h1
theorem T.ln140 : aLen Try.prog 109 (.slice none 0 0) = some (.int .i64 0) := len_nil T.i140
theorem T.rows147 {H : Heap} {e : Env} {K : Value → Heap → Prop} {d : Option Tmp} {ty : TypeId} {ps : String} {af : Array Edge} {gd : Option (Nat × Bool)} {parts : List (Nat × Operand)} {len : Nat} (hlen : len ≤ 2 ^ 20) : aStep Try.prog e H ⟨d, .buildSlice 116 len ⟨parts⟩, ty, ps, af, gd⟩ K = ob (evps e parts) fun vs => ob (rFill 2 (Try.t24.zero.getD undef) len vs) fun cs => K (.slice (some ⟨H.next, 0, none⟩) len len) (H.push (.row true 24 cs)) :=
  s_rows (es := 2) Try.underlying116 (info_of_type Try.type24) (z := Try.t24.zero.getD undef) rfl rfl rfl rfl (by omega) (by omega)
theorem T.makes147 {H : Heap} {e : Env} {K : Value → Heap → Prop} {d : Option Tmp} {ty : TypeId} {ps : String} {af : Array Edge} {gd : Option (Nat × Bool)} {x y : Operand} : aStep Try.prog e H ⟨d, .makeSlice 116 x y, ty, ps, af, gd⟩ K = ob (e x) fun a => ob (e y) fun b => ob (aMk 32 a b) fun p => K (.slice (some ⟨H.next, 0, none⟩) p.1 p.2) (H.push (.row true 24 (repC p.2 [.bool false, .slice none 0 0]))) :=
  s_makes (info_of_type Try.type24) Try.underlying116 rfl ⟨rfl, rfl, by decide⟩ rfl
theorem T.nil147 {x y : Operand} {v : Value} (h : isSlc v = true) {n c : Nat} : aBin Try.prog .eql 116 x y v (.slice none n c) = some (.bool (isNil v)) := bin_isNil Try.underlying116 h
theorem T.lz147 {n : Nat} {cells : List Value} : aLen Try.prog 116 (fzv n cells) = some (.int .i64 n) := len_fz T.i147
theorem T.lv147 {α : Type} {e : En α} {l : List α} : aLen Try.prog 116 (Vv e l) = some (.int .i64 l.length) := len_fz T.i147
theorem T.iv147 {l : List _} {k : IntKind} {i : Int} (h0 : 0 ≤ i) (h1 : i < l.length) : aIndexAddr Try.prog 116 (Vv eI l) (.int k i) = some (fpv (eI.enc (l.getD i.toNat eI.d))) := idx_Vv Try.underlying116 T.s24 T.z24 rfl h0 h1
theorem T.up147 {H : Heap} {l : List _} {k : IntKind} {i : Int} (h0 : 0 ≤ i) (h1 : i ≤ l.length) : aSlice Try.prog H 116 (Vv eI l) none (some (.int k i)) none = some (Vv eI (l.take i.toNat)) := upto_Vv Try.underlying116 T.s24 T.z24 rfl h0 h1
theorem T.fr147 {H : Heap} {l : List _} {k : IntKind} {i : Int} (h0 : 0 ≤ i) (h1 : i ≤ l.length) : aSlice Try.prog H 116 (Vv eI l) (some (.int k i)) none none = some (Vv eI (l.drop i.toNat)) := from_Vv Try.underlying116 T.s24 T.z24 rfl h0 h1
theorem T.ln147 : aLen Try.prog 116 (.slice none 0 0) = some (.int .i64 0) := len_nil T.i147
theorem T.b24_   : aBuild Try.prog 24 (some []) = some (.agg ⟨[.bool false, .slice none 0 0]⟩) := by  kernel_rfl
theorem T.b24_0_1 {x : Bool} {y : Value} (hy : isSl y = true) : aBuild Try.prog 24 (some [(0, .bool x), (1, y)]) = some (.agg ⟨[.bool x, y]⟩) := by rcases isSl_form hy with ⟨_, _, _, rfl⟩ | ⟨_, _, rfl⟩ <;> kernel_rfl
theorem T.b55_   : aBuild Try.prog 26 (some []) = some (.agg ⟨[.bool false, .slice none 0 0, .bool false, .slice none 0 0]⟩) := by  kernel_rfl
theorem T.b55_0_1 {x0 : Bool} {x1 : Value} {y0 : Bool} {y1 : Value} (hx1 : isSl x1 = true) (hy1 : isSl y1 = true) : aBuild Try.prog 26 (some [(0, .agg ⟨[.bool x0, x1]⟩), (1, .agg ⟨[.bool y0, y1]⟩)]) = some (.agg ⟨[.bool x0, x1, .bool y0, y1]⟩) := by rcases isSl_form hx1 with ⟨_, _, _, rfl⟩ | ⟨_, _, rfl⟩ <;> rcases isSl_form hy1 with ⟨_, _, _, rfl⟩ | ⟨_, _, rfl⟩ <;> kernel_rfl
theorem T.b55_1 {y0 : Bool} {y1 : Value} (hy1 : isSl y1 = true) : aBuild Try.prog 26 (some [(1, .agg ⟨[.bool y0, y1]⟩)]) = some (.agg ⟨[.bool false, .slice none 0 0, .bool y0, y1]⟩) := by rcases isSl_form hy1 with ⟨_, _, _, rfl⟩ | ⟨_, _, rfl⟩ <;> kernel_rfl
theorem T.b93_   : aBuild Try.prog 28 (some []) = some (.agg ⟨[.int .i64 0, .bool false, .slice none 0 0, .bool false, .slice none 0 0]⟩) := by  kernel_rfl
theorem T.b93_0 {x : Int}  : aBuild Try.prog 28 (some [(0, .int .i64 x)]) = some (.agg ⟨[.int .i64 x, .bool false, .slice none 0 0, .bool false, .slice none 0 0]⟩) := by  kernel_rfl
theorem T.b93_1 {y00 : Bool} {y01 : Value} {y10 : Bool} {y11 : Value} (hy01 : isSl y01 = true) (hy11 : isSl y11 = true) : aBuild Try.prog 28 (some [(1, .agg ⟨[.bool y00, y01, .bool y10, y11]⟩)]) = some (.agg ⟨[.int .i64 0, .bool y00, y01, .bool y10, y11]⟩) := by rcases isSl_form hy01 with ⟨_, _, _, rfl⟩ | ⟨_, _, rfl⟩ <;> rcases isSl_form hy11 with ⟨_, _, _, rfl⟩ | ⟨_, _, rfl⟩ <;> kernel_rfl
theorem T.b107_0_1_2_3 {x : Int} {y : Value} {z : Value} {u : Value} (hy : isSl y = true) (hz : isSl z = true) (hu : isSl u = true) : aBuild Try.prog 46 (some [(0, .int .i64 x), (1, y), (2, z), (3, u)]) = some (.agg ⟨[.int .i64 x, y, z, u]⟩) := by rcases isSl_form hy with ⟨_, _, _, rfl⟩ | ⟨_, _, rfl⟩ <;> rcases isSl_form hz with ⟨_, _, _, rfl⟩ | ⟨_, _, rfl⟩ <;> rcases isSl_form hu with ⟨_, _, _, rfl⟩ | ⟨_, _, rfl⟩ <;> kernel_rfl
theorem T.b107_0_3 {x : Int} {u : Value} (hu : isSl u = true) : aBuild Try.prog 46 (some [(0, .int .i64 x), (3, u)]) = some (.agg ⟨[.int .i64 x, .slice none 0 0, .slice none 0 0, u]⟩) := by rcases isSl_form hu with ⟨_, _, _, rfl⟩ | ⟨_, _, rfl⟩ <;> kernel_rfl
theorem T.b110_0_1 {x : Int} {y00 : Bool} {y01 : Value} {y10 : Bool} {y11 : Value} (hy01 : isSl y01 = true) (hy11 : isSl y11 = true) : aBuild Try.prog 49 (some [(0, .int .i64 x), (1, .agg ⟨[.bool y00, y01, .bool y10, y11]⟩)]) = some (.agg ⟨[.int .i64 x, .bool y00, y01, .bool y10, y11, .slice none 0 0, .slice none 0 0, .slice none 0 0]⟩) := by rcases isSl_form hy01 with ⟨_, _, _, rfl⟩ | ⟨_, _, rfl⟩ <;> rcases isSl_form hy11 with ⟨_, _, _, rfl⟩ | ⟨_, _, rfl⟩ <;> kernel_rfl
theorem T.b110_0_1_2_3 {x : Int} {y00 : Bool} {y01 : Value} {y10 : Bool} {y11 : Value} {z : Value} {u : Value} (hy01 : isSl y01 = true) (hy11 : isSl y11 = true) (hz : isSl z = true) (hu : isSl u = true) : aBuild Try.prog 49 (some [(0, .int .i64 x), (1, .agg ⟨[.bool y00, y01, .bool y10, y11]⟩), (2, z), (3, u)]) = some (.agg ⟨[.int .i64 x, .bool y00, y01, .bool y10, y11, z, u, .slice none 0 0]⟩) := by rcases isSl_form hy01 with ⟨_, _, _, rfl⟩ | ⟨_, _, rfl⟩ <;> rcases isSl_form hy11 with ⟨_, _, _, rfl⟩ | ⟨_, _, rfl⟩ <;> rcases isSl_form hz with ⟨_, _, _, rfl⟩ | ⟨_, _, rfl⟩ <;> rcases isSl_form hu with ⟨_, _, _, rfl⟩ | ⟨_, _, rfl⟩ <;> kernel_rfl
theorem T.b110_2 {z : Value} (hz : isSl z = true) : aBuild Try.prog 49 (some [(2, z)]) = some (.agg ⟨[.int .i64 0, .bool false, .slice none 0 0, .bool false, .slice none 0 0, z, .slice none 0 0, .slice none 0 0]⟩) := by rcases isSl_form hz with ⟨_, _, _, rfl⟩ | ⟨_, _, rfl⟩ <;> kernel_rfl
attribute [go_sem] T.l2 T.lp2 T.w2 T.alloc2 T.l3 T.lp3 T.w3 T.alloc3 T.l4 T.lp4 T.w4 T.alloc4
attribute [go_sem] T.l5 T.lp5 T.w5 T.alloc5 T.l9 T.lp9 T.w9 T.alloc9 T.l22 T.lp22 T.w22 T.alloc22
attribute [go_sem] T.f24_0 T.fs24_0 T.fp24_0 T.fd24_0 T.f24_1 T.fs24_1 T.fp24_1 T.fd24_1 T.l24 T.lp24 T.w24 T.alloc24
attribute [go_sem] T.l27 T.lp27 T.w27 T.alloc27 T.l50 T.lp50 T.w50 T.alloc50 T.f55_0 T.fs55_0 T.fp55_0 T.fd55_0
attribute [go_sem] T.f55_1 T.fs55_1 T.fp55_1 T.fd55_1 T.l55 T.lp55 T.w55 T.alloc55 T.l70 T.lp70 T.w70 T.alloc70
attribute [go_sem] T.l72 T.lp72 T.w72 T.alloc72 T.f93_0 T.fs93_0 T.fp93_0 T.fd93_0 T.f93_1 T.fs93_1 T.fp93_1 T.fd93_1
attribute [go_sem] T.l93 T.lp93 T.w93 T.alloc93 T.l100 T.lp100 T.w100 T.alloc100 T.f107_0 T.fs107_0 T.fp107_0 T.fd107_0
attribute [go_sem] T.f107_1 T.fs107_1 T.fp107_1 T.fd107_1 T.f107_2 T.fs107_2 T.fp107_2 T.fd107_2 T.f107_3 T.fs107_3 T.fp107_3 T.fd107_3
attribute [go_sem] T.l107 T.lp107 T.w107 T.alloc107 T.f110_0 T.fs110_0 T.fp110_0 T.fd110_0 T.f110_1 T.fs110_1 T.fp110_1 T.fd110_1
attribute [go_sem] T.f110_2 T.fs110_2 T.fp110_2 T.fd110_2 T.f110_3 T.fs110_3 T.fp110_3 T.fd110_3 T.f110_4 T.fs110_4 T.fp110_4 T.fd110_4
attribute [go_sem] T.l110 T.lp110 T.w110 T.alloc110 T.l114 T.lp114 T.w114 T.alloc114 T.l115 T.lp115 T.w115 T.alloc115
attribute [go_sem] T.l116 T.lp116 T.w116 T.alloc116 T.l140 T.lp140 T.w140 T.alloc140 T.l147 T.lp147 T.w147 T.alloc147
attribute [go_sem] T.l155 T.lp155 T.w155 T.alloc155 T.l156 T.lp156 T.w156 T.alloc156 T.e4 T.n4 T.c2_2 T.c2_3
attribute [go_sem] T.c2_5 T.c2_27 T.c2_50 T.c2_115 T.c2_155 T.c2_156 T.c3_2 T.c3_3 T.c3_5 T.c3_27 T.c3_50 T.c3_115
attribute [go_sem] T.c3_155 T.c3_156 T.c5_2 T.c5_3 T.c5_5 T.c5_27 T.c5_50 T.c5_115 T.c5_155 T.c5_156 T.c27_2 T.c27_3
attribute [go_sem] T.c27_5 T.c27_27 T.c27_50 T.c27_115 T.c27_155 T.c27_156 T.c50_2 T.c50_3 T.c50_5 T.c50_27 T.c50_50 T.c50_115
attribute [go_sem] T.c50_155 T.c50_156 T.c115_2 T.c115_3 T.c115_5 T.c115_27 T.c115_50 T.c115_115 T.c115_155 T.c115_156 T.c155_2 T.c155_3
attribute [go_sem] T.c155_5 T.c155_27 T.c155_50 T.c155_115 T.c155_155 T.c155_156 T.c156_2 T.c156_3 T.c156_5 T.c156_27 T.c156_50 T.c156_115
attribute [go_sem] T.c156_155 T.c156_156 T.parts22 T.make22 T.iv22 T.up22 T.fr22 T.nil22 T.lz22 T.lv22 T.ln22 T.rows70
attribute [go_sem] T.makes70 T.iv70 T.up70 T.fr70 T.nil70 T.lz70 T.lv70 T.ln70 T.parts72 T.make72 T.iv72 T.up72
attribute [go_sem] T.fr72 T.nil72 T.lz72 T.lv72 T.ln72 T.rows100 T.makes100 T.iv100 T.up100 T.fr100 T.nil100 T.lz100
attribute [go_sem] T.lv100 T.ln100 T.parts114 T.make114 T.iv114 T.up114 T.fr114 T.nil114 T.lz114 T.lv114 T.ln114 T.parts116
attribute [go_sem] T.make116 T.iv116 T.up116 T.fr116 T.nil116 T.lz116 T.lv116 T.ln116 T.parts140 T.make140 T.iv140 T.up140
attribute [go_sem] T.fr140 T.nil140 T.lz140 T.lv140 T.ln140 T.rows147 T.makes147 T.iv147 T.up147 T.fr147 T.nil147 T.lz147
attribute [go_sem] T.lv147 T.ln147 T.b24_ T.b24_0_1 T.b55_ T.b55_0_1 T.b55_1 T.b93_ T.b93_0 T.b93_1 T.b107_0_1_2_3 T.b107_0_3
attribute [go_sem] T.b110_0_1 T.b110_0_1_2_3 T.b110_2
end Go.Abs
