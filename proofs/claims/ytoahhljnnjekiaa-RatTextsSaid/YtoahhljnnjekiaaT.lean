/- What the program says of its types. -/
import Derived.Test.YtoahhljnnjekiaaBf
import Derived.Test.YtoahhljnnjekiaaProg
import Derived.KernelRfl
set_option linter.unusedVariables false
set_option linter.unusedSimpArgs false
namespace Go.Abs
open Go Go.Proofs

theorem T.hm : Try.prog.follows .mixedOrders = true := by kernel_rfl
theorem T.z2 : sized Try.prog 2 = true := by kernel_rfl
theorem T.s2 : szOf Try.prog 2 = 1 := by kernel_rfl
theorem T.r2 : isRowT Try.prog 2 = some false := by kernel_rfl
theorem T.i2 : isSliceT Try.prog 2 = false := by kernel_rfl
theorem T.z3 : sized Try.prog 3 = true := by kernel_rfl
theorem T.s3 : szOf Try.prog 3 = 1 := by kernel_rfl
theorem T.r3 : isRowT Try.prog 3 = some false := by kernel_rfl
theorem T.i3 : isSliceT Try.prog 3 = false := by kernel_rfl
theorem T.z4 : sized Try.prog 4 = true := by kernel_rfl
theorem T.s4 : szOf Try.prog 4 = 1 := by kernel_rfl
theorem T.r4 : isRowT Try.prog 4 = some false := by kernel_rfl
theorem T.i4 : isSliceT Try.prog 4 = false := by kernel_rfl
theorem T.z5 : sized Try.prog 5 = true := by kernel_rfl
theorem T.s5 : szOf Try.prog 5 = 1 := by kernel_rfl
theorem T.r5 : isRowT Try.prog 5 = some false := by kernel_rfl
theorem T.i5 : isSliceT Try.prog 5 = false := by kernel_rfl
theorem T.z9 : sized Try.prog 9 = true := by kernel_rfl
theorem T.s9 : szOf Try.prog 9 = 1 := by kernel_rfl
theorem T.r9 : isRowT Try.prog 9 = some false := by kernel_rfl
theorem T.i9 : isSliceT Try.prog 9 = false := by kernel_rfl
theorem T.o9 : okSrc Try.prog 9 = true := by kernel_rfl
theorem T.z22 : sized Try.prog 22 = true := by kernel_rfl
theorem T.s22 : szOf Try.prog 22 = 1 := by kernel_rfl
theorem T.r22 : isRowT Try.prog 22 = some false := by kernel_rfl
theorem T.i22 : isSliceT Try.prog 22 = true := by kernel_rfl
theorem T.o22 : okSrc Try.prog 22 = true := by kernel_rfl
theorem T.z24 : sized Try.prog 24 = true := by kernel_rfl
theorem T.s24 : szOf Try.prog 24 = 2 := by kernel_rfl
theorem T.r24 : isRowT Try.prog 24 = some true := by kernel_rfl
theorem T.i24 : isSliceT Try.prog 24 = false := by kernel_rfl
theorem T.z27 : sized Try.prog 27 = true := by kernel_rfl
theorem T.s27 : szOf Try.prog 27 = 1 := by kernel_rfl
theorem T.r27 : isRowT Try.prog 27 = some false := by kernel_rfl
theorem T.i27 : isSliceT Try.prog 27 = false := by kernel_rfl
theorem T.z50 : sized Try.prog 76 = true := by kernel_rfl
theorem T.s50 : szOf Try.prog 76 = 1 := by kernel_rfl
theorem T.r50 : isRowT Try.prog 76 = some false := by kernel_rfl
theorem T.i50 : isSliceT Try.prog 76 = false := by kernel_rfl
theorem T.z55 : sized Try.prog 36 = true := by kernel_rfl
theorem T.s55 : szOf Try.prog 36 = 4 := by kernel_rfl
theorem T.r55 : isRowT Try.prog 36 = some true := by kernel_rfl
theorem T.i55 : isSliceT Try.prog 36 = false := by kernel_rfl
theorem T.z70 : sized Try.prog 46 = true := by kernel_rfl
theorem T.s70 : szOf Try.prog 46 = 1 := by kernel_rfl
theorem T.r70 : isRowT Try.prog 46 = some false := by kernel_rfl
theorem T.i70 : isSliceT Try.prog 46 = true := by kernel_rfl
theorem T.o70 : okSrc Try.prog 46 = true := by kernel_rfl
theorem T.z72 : sized Try.prog 48 = true := by kernel_rfl
theorem T.s72 : szOf Try.prog 48 = 1 := by kernel_rfl
theorem T.r72 : isRowT Try.prog 48 = some false := by kernel_rfl
theorem T.i72 : isSliceT Try.prog 48 = true := by kernel_rfl
theorem T.o72 : okSrc Try.prog 48 = true := by kernel_rfl
theorem T.z84 : sized Try.prog 62 = true := by kernel_rfl
theorem T.s84 : szOf Try.prog 62 = 1 := by kernel_rfl
theorem T.r84 : isRowT Try.prog 62 = some false := by kernel_rfl
theorem T.i84 : isSliceT Try.prog 62 = false := by kernel_rfl
theorem T.z86 : sized Try.prog 64 = true := by kernel_rfl
theorem T.s86 : szOf Try.prog 64 = 1 := by kernel_rfl
theorem T.r86 : isRowT Try.prog 64 = some false := by kernel_rfl
theorem T.i86 : isSliceT Try.prog 64 = false := by kernel_rfl
theorem T.z87 : sized Try.prog 65 = true := by kernel_rfl
theorem T.s87 : szOf Try.prog 65 = 1 := by kernel_rfl
theorem T.r87 : isRowT Try.prog 65 = some false := by kernel_rfl
theorem T.i87 : isSliceT Try.prog 65 = false := by kernel_rfl
theorem T.z140 : sized Try.prog 104 = true := by kernel_rfl
theorem T.s140 : szOf Try.prog 104 = 1 := by kernel_rfl
theorem T.r140 : isRowT Try.prog 104 = some false := by kernel_rfl
theorem T.i140 : isSliceT Try.prog 104 = true := by kernel_rfl
theorem T.o140 : okSrc Try.prog 104 = true := by kernel_rfl
theorem T.z147 : sized Try.prog 74 = true := by kernel_rfl
theorem T.s147 : szOf Try.prog 74 = 1 := by kernel_rfl
theorem T.r147 : isRowT Try.prog 74 = some false := by kernel_rfl
theorem T.i147 : isSliceT Try.prog 74 = true := by kernel_rfl
theorem T.o147 : okSrc Try.prog 74 = true := by kernel_rfl
theorem T.z155 : sized Try.prog 85 = true := by kernel_rfl
theorem T.s155 : szOf Try.prog 85 = 1 := by kernel_rfl
theorem T.r155 : isRowT Try.prog 85 = some false := by kernel_rfl
theorem T.i155 : isSliceT Try.prog 85 = false := by kernel_rfl
theorem T.z156 : sized Try.prog 87 = true := by kernel_rfl
theorem T.s156 : szOf Try.prog 87 = 1 := by kernel_rfl
theorem T.r156 : isRowT Try.prog 87 = some false := by kernel_rfl
theorem T.i156 : isSliceT Try.prog 87 = false := by kernel_rfl
theorem T.z233 : sized Try.prog 123 = true := by kernel_rfl
theorem T.s233 : szOf Try.prog 123 = 1 := by kernel_rfl
theorem T.r233 : isRowT Try.prog 123 = some false := by kernel_rfl
theorem T.i233 : isSliceT Try.prog 123 = false := by kernel_rfl
theorem T.l2 {H : Heap} {b off : Nat} : aLoad Try.prog H 2 (.pointer (some ⟨b, off, none⟩)) = rowAt (H.get b) off := load_one T.r2
theorem T.lp2 {H : Heap} {v : Value} : aLoad Try.prog H 2 (fpv [v]) = some v := load_fz_one T.r2
theorem T.w2 {H : Heap} {b off : Nat} {x : Int}  : aStore Try.prog H 2 (.pointer (some ⟨b, off, none⟩)) (.int .i64 x) = stRow H b off [.int .i64 x] (H.get b) := store_row (vs := [.int .i64 x]) T.z2 T.s2 (rfl) rfl (rfl)
theorem T.new2 : aNew Try.prog (fun _ => none) (.alloc 2) = some (2, [.int .i64 0], fun b => .pointer (some ⟨b, 0, none⟩)) := by kernel_rfl
theorem T.alloc2 {H : Heap} {e : Env} {K : Value → Heap → Prop} {d : Option Tmp} {ty : TypeId} {ps : String} {af : Array Edge} {gd : Option (Nat × Bool)} : aStep Try.prog e H ⟨d, .alloc 2, ty, ps, af, gd⟩ K = K (.pointer (some ⟨H.next, 0, none⟩)) (H.push (.row true 2 [.int .i64 0])) := s_alloc T.new2
theorem T.l3 {H : Heap} {b off : Nat} : aLoad Try.prog H 3 (.pointer (some ⟨b, off, none⟩)) = rowAt (H.get b) off := load_one T.r3
theorem T.lp3 {H : Heap} {v : Value} : aLoad Try.prog H 3 (fpv [v]) = some v := load_fz_one T.r3
theorem T.w3 {H : Heap} {b off : Nat} {x : Int}  : aStore Try.prog H 3 (.pointer (some ⟨b, off, none⟩)) (.int .i64 x) = stRow H b off [.int .i64 x] (H.get b) := store_row (vs := [.int .i64 x]) T.z3 T.s3 (rfl) rfl (rfl)
theorem T.new3 : aNew Try.prog (fun _ => none) (.alloc 3) = some (3, [.int .i64 0], fun b => .pointer (some ⟨b, 0, none⟩)) := by kernel_rfl
theorem T.alloc3 {H : Heap} {e : Env} {K : Value → Heap → Prop} {d : Option Tmp} {ty : TypeId} {ps : String} {af : Array Edge} {gd : Option (Nat × Bool)} : aStep Try.prog e H ⟨d, .alloc 3, ty, ps, af, gd⟩ K = K (.pointer (some ⟨H.next, 0, none⟩)) (H.push (.row true 3 [.int .i64 0])) := s_alloc T.new3
theorem T.l4 {H : Heap} {b off : Nat} : aLoad Try.prog H 4 (.pointer (some ⟨b, off, none⟩)) = rowAt (H.get b) off := load_one T.r4
theorem T.lp4 {H : Heap} {v : Value} : aLoad Try.prog H 4 (fpv [v]) = some v := load_fz_one T.r4
theorem T.w4 {H : Heap} {b off : Nat} {x : Bool}  : aStore Try.prog H 4 (.pointer (some ⟨b, off, none⟩)) (.bool x) = stRow H b off [.bool x] (H.get b) := store_row (vs := [.bool x]) T.z4 T.s4 (rfl) rfl (rfl)
theorem T.new4 : aNew Try.prog (fun _ => none) (.alloc 4) = some (4, [.bool false], fun b => .pointer (some ⟨b, 0, none⟩)) := by kernel_rfl
theorem T.alloc4 {H : Heap} {e : Env} {K : Value → Heap → Prop} {d : Option Tmp} {ty : TypeId} {ps : String} {af : Array Edge} {gd : Option (Nat × Bool)} : aStep Try.prog e H ⟨d, .alloc 4, ty, ps, af, gd⟩ K = K (.pointer (some ⟨H.next, 0, none⟩)) (H.push (.row true 4 [.bool false])) := s_alloc T.new4
theorem T.l5 {H : Heap} {b off : Nat} : aLoad Try.prog H 5 (.pointer (some ⟨b, off, none⟩)) = rowAt (H.get b) off := load_one T.r5
theorem T.lp5 {H : Heap} {v : Value} : aLoad Try.prog H 5 (fpv [v]) = some v := load_fz_one T.r5
theorem T.w5 {H : Heap} {b off : Nat} {x : Int}  : aStore Try.prog H 5 (.pointer (some ⟨b, off, none⟩)) (.int .u8 x) = stRow H b off [.int .u8 x] (H.get b) := store_row (vs := [.int .u8 x]) T.z5 T.s5 (rfl) rfl (rfl)
theorem T.new5 : aNew Try.prog (fun _ => none) (.alloc 5) = some (5, [.int .u8 0], fun b => .pointer (some ⟨b, 0, none⟩)) := by kernel_rfl
theorem T.alloc5 {H : Heap} {e : Env} {K : Value → Heap → Prop} {d : Option Tmp} {ty : TypeId} {ps : String} {af : Array Edge} {gd : Option (Nat × Bool)} : aStep Try.prog e H ⟨d, .alloc 5, ty, ps, af, gd⟩ K = K (.pointer (some ⟨H.next, 0, none⟩)) (H.push (.row true 5 [.int .u8 0])) := s_alloc T.new5
theorem T.l9 {H : Heap} {b off : Nat} : aLoad Try.prog H 9 (.pointer (some ⟨b, off, none⟩)) = rowAt (H.get b) off := load_one T.r9
theorem T.lp9 {H : Heap} {v : Value} : aLoad Try.prog H 9 (fpv [v]) = some v := load_fz_one T.r9
theorem T.w9 {H : Heap} {b off : Nat} {x : ByteArray}  : aStore Try.prog H 9 (.pointer (some ⟨b, off, none⟩)) (.string x) = stRow H b off [.string x] (H.get b) := store_row (vs := [.string x]) T.z9 T.s9 (rfl) rfl (rfl)
theorem T.new9 : aNew Try.prog (fun _ => none) (.alloc 9) = some (9, [.string ByteArray.empty], fun b => .pointer (some ⟨b, 0, none⟩)) := by kernel_rfl
theorem T.alloc9 {H : Heap} {e : Env} {K : Value → Heap → Prop} {d : Option Tmp} {ty : TypeId} {ps : String} {af : Array Edge} {gd : Option (Nat × Bool)} : aStep Try.prog e H ⟨d, .alloc 9, ty, ps, af, gd⟩ K = K (.pointer (some ⟨H.next, 0, none⟩)) (H.push (.row true 9 [.string ByteArray.empty])) := s_alloc T.new9
theorem T.l22 {H : Heap} {b off : Nat} : aLoad Try.prog H 22 (.pointer (some ⟨b, off, none⟩)) = rowAt (H.get b) off := load_one T.r22
theorem T.lp22 {H : Heap} {v : Value} : aLoad Try.prog H 22 (fpv [v]) = some v := load_fz_one T.r22
theorem T.w22 {H : Heap} {b off : Nat} {x : Value} (hx : isSl x = true) : aStore Try.prog H 22 (.pointer (some ⟨b, off, none⟩)) (x) = stRow H b off [x] (H.get b) := store_row (vs := [x]) T.z22 T.s22 (isSl_cells hx) rfl (by simp only [List.all_cons, List.all_nil, isSl_one hx, Bool.and_true])
theorem T.new22 : aNew Try.prog (fun _ => none) (.alloc 22) = some (22, [.slice none 0 0], fun b => .pointer (some ⟨b, 0, none⟩)) := by kernel_rfl
theorem T.alloc22 {H : Heap} {e : Env} {K : Value → Heap → Prop} {d : Option Tmp} {ty : TypeId} {ps : String} {af : Array Edge} {gd : Option (Nat × Bool)} : aStep Try.prog e H ⟨d, .alloc 22, ty, ps, af, gd⟩ K = K (.pointer (some ⟨H.next, 0, none⟩)) (H.push (.row true 22 [.slice none 0 0])) := s_alloc T.new22
theorem T.f24_0 {b o : Nat} : aFieldAddr Try.prog 24 (.pointer (some ⟨b, o, none⟩)) 0 = some (.pointer (some ⟨b, o + 0, none⟩)) := faddr_own Try.underlying24 (by rfl) T.z4 T.s4 (by decide)
theorem T.fs24_0 {v : Value} {o : Nat} : aFieldAddr Try.prog 24 (.pointer (some (sadr v o))) 0 = some (.pointer (some (sadr v (o + 0)))) := T.f24_0
theorem T.fp24_0 {v0 v1 : Value} : aFieldAddr Try.prog 24 (fpv [v0, v1]) 0 = some (fpv [v0]) := faddr_fz (cells := [v0, v1]) (f := 0) (off := 0) (k := 1) Try.underlying24 (by rfl) T.z4 T.s4 (by decide) (by simp)
theorem T.fd24_0 {v0 v1 : Value} : aField Try.prog 24 (.agg ⟨[v0, v1]⟩) 0 = some v0 := field_one (cells := [v0, v1]) (f := 0) (off := 0) Try.underlying24 (by rfl) T.r4 rfl
theorem T.f24_1 {b o : Nat} : aFieldAddr Try.prog 24 (.pointer (some ⟨b, o, none⟩)) 1 = some (.pointer (some ⟨b, o + 1, none⟩)) := faddr_own Try.underlying24 (by rfl) T.z22 T.s22 (by decide)
theorem T.fs24_1 {v : Value} {o : Nat} : aFieldAddr Try.prog 24 (.pointer (some (sadr v o))) 1 = some (.pointer (some (sadr v (o + 1)))) := T.f24_1
theorem T.fp24_1 {v0 v1 : Value} : aFieldAddr Try.prog 24 (fpv [v0, v1]) 1 = some (fpv [v1]) := faddr_fz (cells := [v0, v1]) (f := 1) (off := 1) (k := 1) Try.underlying24 (by rfl) T.z22 T.s22 (by decide) (by simp)
theorem T.fd24_1 {v0 v1 : Value} : aField Try.prog 24 (.agg ⟨[v0, v1]⟩) 1 = some v1 := field_one (cells := [v0, v1]) (f := 1) (off := 1) Try.underlying24 (by rfl) T.r22 rfl
theorem T.l24 {H : Heap} {b off : Nat} : aLoad Try.prog H 24 (.pointer (some ⟨b, off, none⟩)) = (rowsAt (H.get b) off 2).map fun l => .agg ⟨l⟩ := by rw [load_row T.r24 T.z24, T.s24]
theorem T.lp24 {H : Heap} {v0 v1 : Value} : aLoad Try.prog H 24 (fpv [v0, v1]) = some (.agg ⟨[v0, v1]⟩) := load_fz_row T.r24 T.z24 T.s24 rfl
theorem T.w24 {H : Heap} {b off : Nat} {x0 : Bool} {x1 : Value} (hx1 : isSl x1 = true) : aStore Try.prog H 24 (.pointer (some ⟨b, off, none⟩)) (.agg ⟨[.bool x0, x1]⟩) = stRow H b off [.bool x0, x1] (H.get b) := store_row (vs := [.bool x0, x1]) T.z24 T.s24 rfl rfl (by simp only [List.all_cons, List.all_nil, isSl_one hx1, Bool.and_true]; rfl)
theorem T.new24 : aNew Try.prog (fun _ => none) (.alloc 24) = some (24, [.bool false, .slice none 0 0], fun b => .pointer (some ⟨b, 0, none⟩)) := by kernel_rfl
theorem T.alloc24 {H : Heap} {e : Env} {K : Value → Heap → Prop} {d : Option Tmp} {ty : TypeId} {ps : String} {af : Array Edge} {gd : Option (Nat × Bool)} : aStep Try.prog e H ⟨d, .alloc 24, ty, ps, af, gd⟩ K = K (.pointer (some ⟨H.next, 0, none⟩)) (H.push (.row true 24 [.bool false, .slice none 0 0])) := s_alloc T.new24
theorem T.l27 {H : Heap} {b off : Nat} : aLoad Try.prog H 27 (.pointer (some ⟨b, off, none⟩)) = rowAt (H.get b) off := load_one T.r27
theorem T.lp27 {H : Heap} {v : Value} : aLoad Try.prog H 27 (fpv [v]) = some v := load_fz_one T.r27
theorem T.w27 {H : Heap} {b off : Nat} {x : Int}  : aStore Try.prog H 27 (.pointer (some ⟨b, off, none⟩)) (.int .i64 x) = stRow H b off [.int .i64 x] (H.get b) := store_row (vs := [.int .i64 x]) T.z27 T.s27 (rfl) rfl (rfl)
theorem T.new27 : aNew Try.prog (fun _ => none) (.alloc 27) = some (27, [.int .i64 0], fun b => .pointer (some ⟨b, 0, none⟩)) := by kernel_rfl
theorem T.alloc27 {H : Heap} {e : Env} {K : Value → Heap → Prop} {d : Option Tmp} {ty : TypeId} {ps : String} {af : Array Edge} {gd : Option (Nat × Bool)} : aStep Try.prog e H ⟨d, .alloc 27, ty, ps, af, gd⟩ K = K (.pointer (some ⟨H.next, 0, none⟩)) (H.push (.row true 27 [.int .i64 0])) := s_alloc T.new27
theorem T.l50 {H : Heap} {b off : Nat} : aLoad Try.prog H 76 (.pointer (some ⟨b, off, none⟩)) = rowAt (H.get b) off := load_one T.r50
theorem T.lp50 {H : Heap} {v : Value} : aLoad Try.prog H 76 (fpv [v]) = some v := load_fz_one T.r50
theorem T.w50 {H : Heap} {b off : Nat} {x : Int}  : aStore Try.prog H 76 (.pointer (some ⟨b, off, none⟩)) (.int .u32 x) = stRow H b off [.int .u32 x] (H.get b) := store_row (vs := [.int .u32 x]) T.z50 T.s50 (rfl) rfl (rfl)
theorem T.new50 : aNew Try.prog (fun _ => none) (.alloc 76) = some (76, [.int .u32 0], fun b => .pointer (some ⟨b, 0, none⟩)) := by kernel_rfl
theorem T.alloc50 {H : Heap} {e : Env} {K : Value → Heap → Prop} {d : Option Tmp} {ty : TypeId} {ps : String} {af : Array Edge} {gd : Option (Nat × Bool)} : aStep Try.prog e H ⟨d, .alloc 76, ty, ps, af, gd⟩ K = K (.pointer (some ⟨H.next, 0, none⟩)) (H.push (.row true 76 [.int .u32 0])) := s_alloc T.new50
theorem T.f55_0 {b o : Nat} : aFieldAddr Try.prog 36 (.pointer (some ⟨b, o, none⟩)) 0 = some (.pointer (some ⟨b, o + 0, none⟩)) := faddr_own Try.underlying36 (by rfl) T.z24 T.s24 (by decide)
theorem T.fs55_0 {v : Value} {o : Nat} : aFieldAddr Try.prog 36 (.pointer (some (sadr v o))) 0 = some (.pointer (some (sadr v (o + 0)))) := T.f55_0
theorem T.fp55_0 {v0 v1 v2 v3 : Value} : aFieldAddr Try.prog 36 (fpv [v0, v1, v2, v3]) 0 = some (fpv [v0, v1]) := faddr_fz (cells := [v0, v1, v2, v3]) (f := 0) (off := 0) (k := 2) Try.underlying36 (by rfl) T.z24 T.s24 (by decide) (by simp)
theorem T.fd55_0 {v0 v1 v2 v3 : Value} : aField Try.prog 36 (.agg ⟨[v0, v1, v2, v3]⟩) 0 = some (.agg ⟨[v0, v1]⟩) := field_row (cells := [v0, v1, v2, v3]) (f := 0) (off := 0) (k := 2) Try.underlying36 (by rfl) T.r24 T.z24 T.s24
theorem T.f55_1 {b o : Nat} : aFieldAddr Try.prog 36 (.pointer (some ⟨b, o, none⟩)) 1 = some (.pointer (some ⟨b, o + 2, none⟩)) := faddr_own Try.underlying36 (by rfl) T.z24 T.s24 (by decide)
theorem T.fs55_1 {v : Value} {o : Nat} : aFieldAddr Try.prog 36 (.pointer (some (sadr v o))) 1 = some (.pointer (some (sadr v (o + 2)))) := T.f55_1
theorem T.fp55_1 {v0 v1 v2 v3 : Value} : aFieldAddr Try.prog 36 (fpv [v0, v1, v2, v3]) 1 = some (fpv [v2, v3]) := faddr_fz (cells := [v0, v1, v2, v3]) (f := 1) (off := 2) (k := 2) Try.underlying36 (by rfl) T.z24 T.s24 (by decide) (by simp)
theorem T.fd55_1 {v0 v1 v2 v3 : Value} : aField Try.prog 36 (.agg ⟨[v0, v1, v2, v3]⟩) 1 = some (.agg ⟨[v2, v3]⟩) := field_row (cells := [v0, v1, v2, v3]) (f := 1) (off := 2) (k := 2) Try.underlying36 (by rfl) T.r24 T.z24 T.s24
theorem T.l55 {H : Heap} {b off : Nat} : aLoad Try.prog H 36 (.pointer (some ⟨b, off, none⟩)) = (rowsAt (H.get b) off 4).map fun l => .agg ⟨l⟩ := by rw [load_row T.r55 T.z55, T.s55]
theorem T.lp55 {H : Heap} {v0 v1 v2 v3 : Value} : aLoad Try.prog H 36 (fpv [v0, v1, v2, v3]) = some (.agg ⟨[v0, v1, v2, v3]⟩) := load_fz_row T.r55 T.z55 T.s55 rfl
theorem T.w55 {H : Heap} {b off : Nat} {x00 : Bool} {x01 : Value} {x10 : Bool} {x11 : Value} (hx01 : isSl x01 = true) (hx11 : isSl x11 = true) : aStore Try.prog H 36 (.pointer (some ⟨b, off, none⟩)) (.agg ⟨[.bool x00, x01, .bool x10, x11]⟩) = stRow H b off [.bool x00, x01, .bool x10, x11] (H.get b) := store_row (vs := [.bool x00, x01, .bool x10, x11]) T.z55 T.s55 rfl rfl (by simp only [List.all_cons, List.all_nil, isSl_one hx01, isSl_one hx11, Bool.and_true]; rfl)
theorem T.new55 : aNew Try.prog (fun _ => none) (.alloc 36) = some (36, [.bool false, .slice none 0 0, .bool false, .slice none 0 0], fun b => .pointer (some ⟨b, 0, none⟩)) := by kernel_rfl
theorem T.alloc55 {H : Heap} {e : Env} {K : Value → Heap → Prop} {d : Option Tmp} {ty : TypeId} {ps : String} {af : Array Edge} {gd : Option (Nat × Bool)} : aStep Try.prog e H ⟨d, .alloc 36, ty, ps, af, gd⟩ K = K (.pointer (some ⟨H.next, 0, none⟩)) (H.push (.row true 36 [.bool false, .slice none 0 0, .bool false, .slice none 0 0])) := s_alloc T.new55
theorem T.l70 {H : Heap} {b off : Nat} : aLoad Try.prog H 46 (.pointer (some ⟨b, off, none⟩)) = rowAt (H.get b) off := load_one T.r70
theorem T.lp70 {H : Heap} {v : Value} : aLoad Try.prog H 46 (fpv [v]) = some v := load_fz_one T.r70
theorem T.w70 {H : Heap} {b off : Nat} {x : Value} (hx : isSl x = true) : aStore Try.prog H 46 (.pointer (some ⟨b, off, none⟩)) (x) = stRow H b off [x] (H.get b) := store_row (vs := [x]) T.z70 T.s70 (isSl_cells hx) rfl (by simp only [List.all_cons, List.all_nil, isSl_one hx, Bool.and_true])
theorem T.new70 : aNew Try.prog (fun _ => none) (.alloc 46) = some (46, [.slice none 0 0], fun b => .pointer (some ⟨b, 0, none⟩)) := by kernel_rfl
theorem T.alloc70 {H : Heap} {e : Env} {K : Value → Heap → Prop} {d : Option Tmp} {ty : TypeId} {ps : String} {af : Array Edge} {gd : Option (Nat × Bool)} : aStep Try.prog e H ⟨d, .alloc 46, ty, ps, af, gd⟩ K = K (.pointer (some ⟨H.next, 0, none⟩)) (H.push (.row true 46 [.slice none 0 0])) := s_alloc T.new70
theorem T.l72 {H : Heap} {b off : Nat} : aLoad Try.prog H 48 (.pointer (some ⟨b, off, none⟩)) = rowAt (H.get b) off := load_one T.r72
theorem T.lp72 {H : Heap} {v : Value} : aLoad Try.prog H 48 (fpv [v]) = some v := load_fz_one T.r72
theorem T.w72 {H : Heap} {b off : Nat} {x : Value} (hx : isSl x = true) : aStore Try.prog H 48 (.pointer (some ⟨b, off, none⟩)) (x) = stRow H b off [x] (H.get b) := store_row (vs := [x]) T.z72 T.s72 (isSl_cells hx) rfl (by simp only [List.all_cons, List.all_nil, isSl_one hx, Bool.and_true])
theorem T.new72 : aNew Try.prog (fun _ => none) (.alloc 48) = some (48, [.slice none 0 0], fun b => .pointer (some ⟨b, 0, none⟩)) := by kernel_rfl
theorem T.alloc72 {H : Heap} {e : Env} {K : Value → Heap → Prop} {d : Option Tmp} {ty : TypeId} {ps : String} {af : Array Edge} {gd : Option (Nat × Bool)} : aStep Try.prog e H ⟨d, .alloc 48, ty, ps, af, gd⟩ K = K (.pointer (some ⟨H.next, 0, none⟩)) (H.push (.row true 48 [.slice none 0 0])) := s_alloc T.new72
theorem T.l140 {H : Heap} {b off : Nat} : aLoad Try.prog H 104 (.pointer (some ⟨b, off, none⟩)) = rowAt (H.get b) off := load_one T.r140
theorem T.lp140 {H : Heap} {v : Value} : aLoad Try.prog H 104 (fpv [v]) = some v := load_fz_one T.r140
theorem T.w140 {H : Heap} {b off : Nat} {x : Value} (hx : isSl x = true) : aStore Try.prog H 104 (.pointer (some ⟨b, off, none⟩)) (x) = stRow H b off [x] (H.get b) := store_row (vs := [x]) T.z140 T.s140 (isSl_cells hx) rfl (by simp only [List.all_cons, List.all_nil, isSl_one hx, Bool.and_true])
theorem T.new140 : aNew Try.prog (fun _ => none) (.alloc 104) = some (104, [.slice none 0 0], fun b => .pointer (some ⟨b, 0, none⟩)) := by kernel_rfl
theorem T.alloc140 {H : Heap} {e : Env} {K : Value → Heap → Prop} {d : Option Tmp} {ty : TypeId} {ps : String} {af : Array Edge} {gd : Option (Nat × Bool)} : aStep Try.prog e H ⟨d, .alloc 104, ty, ps, af, gd⟩ K = K (.pointer (some ⟨H.next, 0, none⟩)) (H.push (.row true 104 [.slice none 0 0])) := s_alloc T.new140
theorem T.l147 {H : Heap} {b off : Nat} : aLoad Try.prog H 74 (.pointer (some ⟨b, off, none⟩)) = rowAt (H.get b) off := load_one T.r147
theorem T.lp147 {H : Heap} {v : Value} : aLoad Try.prog H 74 (fpv [v]) = some v := load_fz_one T.r147
theorem T.w147 {H : Heap} {b off : Nat} {x : Value} (hx : isSl x = true) : aStore Try.prog H 74 (.pointer (some ⟨b, off, none⟩)) (x) = stRow H b off [x] (H.get b) := store_row (vs := [x]) T.z147 T.s147 (isSl_cells hx) rfl (by simp only [List.all_cons, List.all_nil, isSl_one hx, Bool.and_true])
theorem T.new147 : aNew Try.prog (fun _ => none) (.alloc 74) = some (74, [.slice none 0 0], fun b => .pointer (some ⟨b, 0, none⟩)) := by kernel_rfl
theorem T.alloc147 {H : Heap} {e : Env} {K : Value → Heap → Prop} {d : Option Tmp} {ty : TypeId} {ps : String} {af : Array Edge} {gd : Option (Nat × Bool)} : aStep Try.prog e H ⟨d, .alloc 74, ty, ps, af, gd⟩ K = K (.pointer (some ⟨H.next, 0, none⟩)) (H.push (.row true 74 [.slice none 0 0])) := s_alloc T.new147
theorem T.l155 {H : Heap} {b off : Nat} : aLoad Try.prog H 85 (.pointer (some ⟨b, off, none⟩)) = rowAt (H.get b) off := load_one T.r155
theorem T.lp155 {H : Heap} {v : Value} : aLoad Try.prog H 85 (fpv [v]) = some v := load_fz_one T.r155
theorem T.w155 {H : Heap} {b off : Nat} {x : Int}  : aStore Try.prog H 85 (.pointer (some ⟨b, off, none⟩)) (.int .u64 x) = stRow H b off [.int .u64 x] (H.get b) := store_row (vs := [.int .u64 x]) T.z155 T.s155 (rfl) rfl (rfl)
theorem T.new155 : aNew Try.prog (fun _ => none) (.alloc 85) = some (85, [.int .u64 0], fun b => .pointer (some ⟨b, 0, none⟩)) := by kernel_rfl
theorem T.alloc155 {H : Heap} {e : Env} {K : Value → Heap → Prop} {d : Option Tmp} {ty : TypeId} {ps : String} {af : Array Edge} {gd : Option (Nat × Bool)} : aStep Try.prog e H ⟨d, .alloc 85, ty, ps, af, gd⟩ K = K (.pointer (some ⟨H.next, 0, none⟩)) (H.push (.row true 85 [.int .u64 0])) := s_alloc T.new155
theorem T.l156 {H : Heap} {b off : Nat} : aLoad Try.prog H 87 (.pointer (some ⟨b, off, none⟩)) = rowAt (H.get b) off := load_one T.r156
theorem T.lp156 {H : Heap} {v : Value} : aLoad Try.prog H 87 (fpv [v]) = some v := load_fz_one T.r156
theorem T.w156 {H : Heap} {b off : Nat} {x : Int}  : aStore Try.prog H 87 (.pointer (some ⟨b, off, none⟩)) (.int .u64 x) = stRow H b off [.int .u64 x] (H.get b) := store_row (vs := [.int .u64 x]) T.z156 T.s156 (rfl) rfl (rfl)
theorem T.new156 : aNew Try.prog (fun _ => none) (.alloc 87) = some (87, [.int .u64 0], fun b => .pointer (some ⟨b, 0, none⟩)) := by kernel_rfl
theorem T.alloc156 {H : Heap} {e : Env} {K : Value → Heap → Prop} {d : Option Tmp} {ty : TypeId} {ps : String} {af : Array Edge} {gd : Option (Nat × Bool)} : aStep Try.prog e H ⟨d, .alloc 87, ty, ps, af, gd⟩ K = K (.pointer (some ⟨H.next, 0, none⟩)) (H.push (.row true 87 [.int .u64 0])) := s_alloc T.new156
theorem T.e4 {x y : Operand} {a b : Bool} : aBin Try.prog .eql 4 x y (.bool a) (.bool b) = some (.bool (a == b)) := bin_beql Try.underlying4
theorem T.n4 {x y : Operand} {a b : Bool} : aBin Try.prog .neq 4 x y (.bool a) (.bool b) = some (.bool (a != b)) := bin_bneq Try.underlying4
theorem T.c2_2 {H : Heap} {k : IntKind} {n : Int} : aConv Try.prog H 2 2 (.int k n) = some (.int .i64 (IntKind.i64.wrap n)) := conv_int T.i2 Try.underlying2 Try.underlying2
theorem T.c2_3 {H : Heap} {k : IntKind} {n : Int} : aConv Try.prog H 2 3 (.int k n) = some (.int .i64 (IntKind.i64.wrap n)) := conv_int T.i2 Try.underlying2 Try.underlying3
theorem T.c2_5 {H : Heap} {k : IntKind} {n : Int} : aConv Try.prog H 2 5 (.int k n) = some (.int .u8 (IntKind.u8.wrap n)) := conv_int T.i2 Try.underlying2 Try.underlying5
theorem T.c2_27 {H : Heap} {k : IntKind} {n : Int} : aConv Try.prog H 2 27 (.int k n) = some (.int .i64 (IntKind.i64.wrap n)) := conv_int T.i2 Try.underlying2 Try.underlying27
theorem T.c2_50 {H : Heap} {k : IntKind} {n : Int} : aConv Try.prog H 2 76 (.int k n) = some (.int .u32 (IntKind.u32.wrap n)) := conv_int T.i2 Try.underlying2 Try.underlying76
theorem T.c2_155 {H : Heap} {k : IntKind} {n : Int} : aConv Try.prog H 2 85 (.int k n) = some (.int .u64 (IntKind.u64.wrap n)) := conv_int T.i2 Try.underlying2 Try.underlying85
theorem T.c2_156 {H : Heap} {k : IntKind} {n : Int} : aConv Try.prog H 2 87 (.int k n) = some (.int .u64 (IntKind.u64.wrap n)) := conv_int T.i2 Try.underlying2 Try.underlying87
theorem T.c3_2 {H : Heap} {k : IntKind} {n : Int} : aConv Try.prog H 3 2 (.int k n) = some (.int .i64 (IntKind.i64.wrap n)) := conv_int T.i3 Try.underlying3 Try.underlying2
theorem T.c3_3 {H : Heap} {k : IntKind} {n : Int} : aConv Try.prog H 3 3 (.int k n) = some (.int .i64 (IntKind.i64.wrap n)) := conv_int T.i3 Try.underlying3 Try.underlying3
theorem T.c3_5 {H : Heap} {k : IntKind} {n : Int} : aConv Try.prog H 3 5 (.int k n) = some (.int .u8 (IntKind.u8.wrap n)) := conv_int T.i3 Try.underlying3 Try.underlying5
theorem T.c3_27 {H : Heap} {k : IntKind} {n : Int} : aConv Try.prog H 3 27 (.int k n) = some (.int .i64 (IntKind.i64.wrap n)) := conv_int T.i3 Try.underlying3 Try.underlying27
theorem T.c3_50 {H : Heap} {k : IntKind} {n : Int} : aConv Try.prog H 3 76 (.int k n) = some (.int .u32 (IntKind.u32.wrap n)) := conv_int T.i3 Try.underlying3 Try.underlying76
theorem T.c3_155 {H : Heap} {k : IntKind} {n : Int} : aConv Try.prog H 3 85 (.int k n) = some (.int .u64 (IntKind.u64.wrap n)) := conv_int T.i3 Try.underlying3 Try.underlying85
theorem T.c3_156 {H : Heap} {k : IntKind} {n : Int} : aConv Try.prog H 3 87 (.int k n) = some (.int .u64 (IntKind.u64.wrap n)) := conv_int T.i3 Try.underlying3 Try.underlying87
theorem T.c5_2 {H : Heap} {k : IntKind} {n : Int} : aConv Try.prog H 5 2 (.int k n) = some (.int .i64 (IntKind.i64.wrap n)) := conv_int T.i5 Try.underlying5 Try.underlying2
theorem T.c5_3 {H : Heap} {k : IntKind} {n : Int} : aConv Try.prog H 5 3 (.int k n) = some (.int .i64 (IntKind.i64.wrap n)) := conv_int T.i5 Try.underlying5 Try.underlying3
theorem T.c5_5 {H : Heap} {k : IntKind} {n : Int} : aConv Try.prog H 5 5 (.int k n) = some (.int .u8 (IntKind.u8.wrap n)) := conv_int T.i5 Try.underlying5 Try.underlying5
theorem T.c5_27 {H : Heap} {k : IntKind} {n : Int} : aConv Try.prog H 5 27 (.int k n) = some (.int .i64 (IntKind.i64.wrap n)) := conv_int T.i5 Try.underlying5 Try.underlying27
theorem T.c5_50 {H : Heap} {k : IntKind} {n : Int} : aConv Try.prog H 5 76 (.int k n) = some (.int .u32 (IntKind.u32.wrap n)) := conv_int T.i5 Try.underlying5 Try.underlying76
theorem T.c5_155 {H : Heap} {k : IntKind} {n : Int} : aConv Try.prog H 5 85 (.int k n) = some (.int .u64 (IntKind.u64.wrap n)) := conv_int T.i5 Try.underlying5 Try.underlying85
theorem T.c5_156 {H : Heap} {k : IntKind} {n : Int} : aConv Try.prog H 5 87 (.int k n) = some (.int .u64 (IntKind.u64.wrap n)) := conv_int T.i5 Try.underlying5 Try.underlying87
theorem T.c27_2 {H : Heap} {k : IntKind} {n : Int} : aConv Try.prog H 27 2 (.int k n) = some (.int .i64 (IntKind.i64.wrap n)) := conv_int T.i27 Try.underlying27 Try.underlying2
theorem T.c27_3 {H : Heap} {k : IntKind} {n : Int} : aConv Try.prog H 27 3 (.int k n) = some (.int .i64 (IntKind.i64.wrap n)) := conv_int T.i27 Try.underlying27 Try.underlying3
theorem T.c27_5 {H : Heap} {k : IntKind} {n : Int} : aConv Try.prog H 27 5 (.int k n) = some (.int .u8 (IntKind.u8.wrap n)) := conv_int T.i27 Try.underlying27 Try.underlying5
theorem T.c27_27 {H : Heap} {k : IntKind} {n : Int} : aConv Try.prog H 27 27 (.int k n) = some (.int .i64 (IntKind.i64.wrap n)) := conv_int T.i27 Try.underlying27 Try.underlying27
theorem T.c27_50 {H : Heap} {k : IntKind} {n : Int} : aConv Try.prog H 27 76 (.int k n) = some (.int .u32 (IntKind.u32.wrap n)) := conv_int T.i27 Try.underlying27 Try.underlying76
theorem T.c27_155 {H : Heap} {k : IntKind} {n : Int} : aConv Try.prog H 27 85 (.int k n) = some (.int .u64 (IntKind.u64.wrap n)) := conv_int T.i27 Try.underlying27 Try.underlying85
theorem T.c27_156 {H : Heap} {k : IntKind} {n : Int} : aConv Try.prog H 27 87 (.int k n) = some (.int .u64 (IntKind.u64.wrap n)) := conv_int T.i27 Try.underlying27 Try.underlying87
theorem T.c50_2 {H : Heap} {k : IntKind} {n : Int} : aConv Try.prog H 76 2 (.int k n) = some (.int .i64 (IntKind.i64.wrap n)) := conv_int T.i50 Try.underlying76 Try.underlying2
theorem T.c50_3 {H : Heap} {k : IntKind} {n : Int} : aConv Try.prog H 76 3 (.int k n) = some (.int .i64 (IntKind.i64.wrap n)) := conv_int T.i50 Try.underlying76 Try.underlying3
theorem T.c50_5 {H : Heap} {k : IntKind} {n : Int} : aConv Try.prog H 76 5 (.int k n) = some (.int .u8 (IntKind.u8.wrap n)) := conv_int T.i50 Try.underlying76 Try.underlying5
theorem T.c50_27 {H : Heap} {k : IntKind} {n : Int} : aConv Try.prog H 76 27 (.int k n) = some (.int .i64 (IntKind.i64.wrap n)) := conv_int T.i50 Try.underlying76 Try.underlying27
theorem T.c50_50 {H : Heap} {k : IntKind} {n : Int} : aConv Try.prog H 76 76 (.int k n) = some (.int .u32 (IntKind.u32.wrap n)) := conv_int T.i50 Try.underlying76 Try.underlying76
theorem T.c50_155 {H : Heap} {k : IntKind} {n : Int} : aConv Try.prog H 76 85 (.int k n) = some (.int .u64 (IntKind.u64.wrap n)) := conv_int T.i50 Try.underlying76 Try.underlying85
theorem T.c50_156 {H : Heap} {k : IntKind} {n : Int} : aConv Try.prog H 76 87 (.int k n) = some (.int .u64 (IntKind.u64.wrap n)) := conv_int T.i50 Try.underlying76 Try.underlying87
theorem T.c155_2 {H : Heap} {k : IntKind} {n : Int} : aConv Try.prog H 85 2 (.int k n) = some (.int .i64 (IntKind.i64.wrap n)) := conv_int T.i155 Try.underlying85 Try.underlying2
theorem T.c155_3 {H : Heap} {k : IntKind} {n : Int} : aConv Try.prog H 85 3 (.int k n) = some (.int .i64 (IntKind.i64.wrap n)) := conv_int T.i155 Try.underlying85 Try.underlying3
theorem T.c155_5 {H : Heap} {k : IntKind} {n : Int} : aConv Try.prog H 85 5 (.int k n) = some (.int .u8 (IntKind.u8.wrap n)) := conv_int T.i155 Try.underlying85 Try.underlying5
theorem T.c155_27 {H : Heap} {k : IntKind} {n : Int} : aConv Try.prog H 85 27 (.int k n) = some (.int .i64 (IntKind.i64.wrap n)) := conv_int T.i155 Try.underlying85 Try.underlying27
theorem T.c155_50 {H : Heap} {k : IntKind} {n : Int} : aConv Try.prog H 85 76 (.int k n) = some (.int .u32 (IntKind.u32.wrap n)) := conv_int T.i155 Try.underlying85 Try.underlying76
theorem T.c155_155 {H : Heap} {k : IntKind} {n : Int} : aConv Try.prog H 85 85 (.int k n) = some (.int .u64 (IntKind.u64.wrap n)) := conv_int T.i155 Try.underlying85 Try.underlying85
theorem T.c155_156 {H : Heap} {k : IntKind} {n : Int} : aConv Try.prog H 85 87 (.int k n) = some (.int .u64 (IntKind.u64.wrap n)) := conv_int T.i155 Try.underlying85 Try.underlying87
theorem T.c156_2 {H : Heap} {k : IntKind} {n : Int} : aConv Try.prog H 87 2 (.int k n) = some (.int .i64 (IntKind.i64.wrap n)) := conv_int T.i156 Try.underlying87 Try.underlying2
theorem T.c156_3 {H : Heap} {k : IntKind} {n : Int} : aConv Try.prog H 87 3 (.int k n) = some (.int .i64 (IntKind.i64.wrap n)) := conv_int T.i156 Try.underlying87 Try.underlying3
theorem T.c156_5 {H : Heap} {k : IntKind} {n : Int} : aConv Try.prog H 87 5 (.int k n) = some (.int .u8 (IntKind.u8.wrap n)) := conv_int T.i156 Try.underlying87 Try.underlying5
theorem T.c156_27 {H : Heap} {k : IntKind} {n : Int} : aConv Try.prog H 87 27 (.int k n) = some (.int .i64 (IntKind.i64.wrap n)) := conv_int T.i156 Try.underlying87 Try.underlying27
theorem T.c156_50 {H : Heap} {k : IntKind} {n : Int} : aConv Try.prog H 87 76 (.int k n) = some (.int .u32 (IntKind.u32.wrap n)) := conv_int T.i156 Try.underlying87 Try.underlying76
theorem T.c156_155 {H : Heap} {k : IntKind} {n : Int} : aConv Try.prog H 87 85 (.int k n) = some (.int .u64 (IntKind.u64.wrap n)) := conv_int T.i156 Try.underlying87 Try.underlying85
theorem T.c156_156 {H : Heap} {k : IntKind} {n : Int} : aConv Try.prog H 87 87 (.int k n) = some (.int .u64 (IntKind.u64.wrap n)) := conv_int T.i156 Try.underlying87 Try.underlying87
theorem T.parts22 {H : Heap} {e : Env} {K : Value → Heap → Prop} {d : Option Tmp} {ty : TypeId} {ps : String} {af : Array Edge} {gd : Option (Nat × Bool)} {parts : List (Nat × Operand)} {len : Nat} (hlen : len ≤ 2 ^ 24) : aStep Try.prog e H ⟨d, .buildSlice 22 len ⟨parts⟩, ty, ps, af, gd⟩ K = ob (evps e parts) fun vs => ob (pFill (.int .u32 0) len vs) fun cs => K (.slice (some ⟨H.next, 0, none⟩) len len) (H.push (.row true 76 cs)) :=
  s_parts Try.underlying22 (info_of_type Try.type76) (z := .int .u32 0) rfl rfl rfl rfl hlen
theorem T.make22 {H : Heap} {e : Env} {K : Value → Heap → Prop} {d : Option Tmp} {ty : TypeId} {ps : String} {af : Array Edge} {gd : Option (Nat × Bool)} {x y : Operand} : aStep Try.prog e H ⟨d, .makeSlice 22 x y, ty, ps, af, gd⟩ K = ob (e x) fun a => ob (e y) fun b => ob (aMk 4 a b) fun p => K (.slice (some ⟨H.next, 0, none⟩) p.1 p.2) (H.push (.row true 76 (List.replicate p.2 (.int .u32 0)))) :=
  s_make Try.underlying22 (info_of_type Try.type76) (z := .int .u32 0) rfl rfl rfl rfl
theorem T.nil22 {x y : Operand} {v : Value} (h : isSlc v = true) {n c : Nat} : aBin Try.prog .eql 22 x y v (.slice none n c) = some (.bool (isNil v)) := bin_isNil Try.underlying22 h
theorem T.lz22 {n : Nat} {cells : List Value} : aLen Try.prog 22 (fzv n cells) = some (.int .i64 n) := len_fz T.i22
theorem T.lv22 {α : Type} {e : En α} {l : List α} : aLen Try.prog 22 (Vv e l) = some (.int .i64 l.length) := len_fz T.i22
theorem T.iv22 {l : List _} {k : IntKind} {i : Int} (h0 : 0 ≤ i) (h1 : i < l.length) : aIndexAddr Try.prog 22 (Vv eU l) (.int k i) = some (fpv (eU.enc (l.getD i.toNat eU.d))) := idx_Vv Try.underlying22 T.s50 T.z50 rfl h0 h1
theorem T.up22 {H : Heap} {l : List _} {k : IntKind} {i : Int} (h0 : 0 ≤ i) (h1 : i ≤ l.length) : aSlice Try.prog H 22 (Vv eU l) none (some (.int k i)) none = some (Vv eU (l.take i.toNat)) := upto_Vv Try.underlying22 T.s50 T.z50 rfl h0 h1
theorem T.fr22 {H : Heap} {l : List _} {k : IntKind} {i : Int} (h0 : 0 ≤ i) (h1 : i ≤ l.length) : aSlice Try.prog H 22 (Vv eU l) (some (.int k i)) none none = some (Vv eU (l.drop i.toNat)) := from_Vv Try.underlying22 T.s50 T.z50 rfl h0 h1
theorem T.ln22 : aLen Try.prog 22 (.slice none 0 0) = some (.int .i64 0) := len_nil T.i22
theorem T.rows70 {H : Heap} {e : Env} {K : Value → Heap → Prop} {d : Option Tmp} {ty : TypeId} {ps : String} {af : Array Edge} {gd : Option (Nat × Bool)} {parts : List (Nat × Operand)} {len : Nat} (hlen : len ≤ 2 ^ 20) : aStep Try.prog e H ⟨d, .buildSlice 46 len ⟨parts⟩, ty, ps, af, gd⟩ K = ob (evps e parts) fun vs => ob (rFill 4 (Try.t36.zero.getD undef) len vs) fun cs => K (.slice (some ⟨H.next, 0, none⟩) len len) (H.push (.row true 36 cs)) :=
  s_rows (es := 4) Try.underlying46 (info_of_type Try.type36) (z := Try.t36.zero.getD undef) rfl rfl rfl rfl (by omega) (by omega)
theorem T.makes70 {H : Heap} {e : Env} {K : Value → Heap → Prop} {d : Option Tmp} {ty : TypeId} {ps : String} {af : Array Edge} {gd : Option (Nat × Bool)} {x y : Operand} : aStep Try.prog e H ⟨d, .makeSlice 46 x y, ty, ps, af, gd⟩ K = ob (e x) fun a => ob (e y) fun b => ob (aMk 64 a b) fun p => K (.slice (some ⟨H.next, 0, none⟩) p.1 p.2) (H.push (.row true 36 (repC p.2 [.bool false, .slice none 0 0, .bool false, .slice none 0 0]))) :=
  s_makes (info_of_type Try.type36) Try.underlying46 rfl ⟨rfl, rfl, by decide⟩ rfl
theorem T.nil70 {x y : Operand} {v : Value} (h : isSlc v = true) {n c : Nat} : aBin Try.prog .eql 46 x y v (.slice none n c) = some (.bool (isNil v)) := bin_isNil Try.underlying46 h
theorem T.lz70 {n : Nat} {cells : List Value} : aLen Try.prog 46 (fzv n cells) = some (.int .i64 n) := len_fz T.i70
theorem T.lv70 {α : Type} {e : En α} {l : List α} : aLen Try.prog 46 (Vv e l) = some (.int .i64 l.length) := len_fz T.i70
theorem T.iv70 {l : List _} {k : IntKind} {i : Int} (h0 : 0 ≤ i) (h1 : i < l.length) : aIndexAddr Try.prog 46 (Vv eQ l) (.int k i) = some (fpv (eQ.enc (l.getD i.toNat eQ.d))) := idx_Vv Try.underlying46 T.s55 T.z55 rfl h0 h1
theorem T.up70 {H : Heap} {l : List _} {k : IntKind} {i : Int} (h0 : 0 ≤ i) (h1 : i ≤ l.length) : aSlice Try.prog H 46 (Vv eQ l) none (some (.int k i)) none = some (Vv eQ (l.take i.toNat)) := upto_Vv Try.underlying46 T.s55 T.z55 rfl h0 h1
theorem T.fr70 {H : Heap} {l : List _} {k : IntKind} {i : Int} (h0 : 0 ≤ i) (h1 : i ≤ l.length) : aSlice Try.prog H 46 (Vv eQ l) (some (.int k i)) none none = some (Vv eQ (l.drop i.toNat)) := from_Vv Try.underlying46 T.s55 T.z55 rfl h0 h1
theorem T.ln70 : aLen Try.prog 46 (.slice none 0 0) = some (.int .i64 0) := len_nil T.i70
theorem T.parts72 {H : Heap} {e : Env} {K : Value → Heap → Prop} {d : Option Tmp} {ty : TypeId} {ps : String} {af : Array Edge} {gd : Option (Nat × Bool)} {parts : List (Nat × Operand)} {len : Nat} (hlen : len ≤ 2 ^ 24) : aStep Try.prog e H ⟨d, .buildSlice 48 len ⟨parts⟩, ty, ps, af, gd⟩ K = ob (evps e parts) fun vs => ob (pFill (.slice none 0 0) len vs) fun cs => K (.slice (some ⟨H.next, 0, none⟩) len len) (H.push (.row true 46 cs)) :=
  s_parts Try.underlying48 (info_of_type Try.type46) (z := .slice none 0 0) rfl rfl rfl rfl hlen
theorem T.make72 {H : Heap} {e : Env} {K : Value → Heap → Prop} {d : Option Tmp} {ty : TypeId} {ps : String} {af : Array Edge} {gd : Option (Nat × Bool)} {x y : Operand} : aStep Try.prog e H ⟨d, .makeSlice 48 x y, ty, ps, af, gd⟩ K = ob (e x) fun a => ob (e y) fun b => ob (aMk 24 a b) fun p => K (.slice (some ⟨H.next, 0, none⟩) p.1 p.2) (H.push (.row true 46 (List.replicate p.2 (.slice none 0 0)))) :=
  s_make Try.underlying48 (info_of_type Try.type46) (z := .slice none 0 0) rfl rfl rfl rfl
theorem T.nil72 {x y : Operand} {v : Value} (h : isSlc v = true) {n c : Nat} : aBin Try.prog .eql 48 x y v (.slice none n c) = some (.bool (isNil v)) := bin_isNil Try.underlying48 h
theorem T.lz72 {n : Nat} {cells : List Value} : aLen Try.prog 48 (fzv n cells) = some (.int .i64 n) := len_fz T.i72
theorem T.lv72 {α : Type} {e : En α} {l : List α} : aLen Try.prog 48 (Vv e l) = some (.int .i64 l.length) := len_fz T.i72
theorem T.iv72 {l : List _} {k : IntKind} {i : Int} (h0 : 0 ≤ i) (h1 : i < l.length) : aIndexAddr Try.prog 48 (Vv eR l) (.int k i) = some (fpv (eR.enc (l.getD i.toNat eR.d))) := idx_Vv Try.underlying48 T.s70 T.z70 rfl h0 h1
theorem T.up72 {H : Heap} {l : List _} {k : IntKind} {i : Int} (h0 : 0 ≤ i) (h1 : i ≤ l.length) : aSlice Try.prog H 48 (Vv eR l) none (some (.int k i)) none = some (Vv eR (l.take i.toNat)) := upto_Vv Try.underlying48 T.s70 T.z70 rfl h0 h1
theorem T.fr72 {H : Heap} {l : List _} {k : IntKind} {i : Int} (h0 : 0 ≤ i) (h1 : i ≤ l.length) : aSlice Try.prog H 48 (Vv eR l) (some (.int k i)) none none = some (Vv eR (l.drop i.toNat)) := from_Vv Try.underlying48 T.s70 T.z70 rfl h0 h1
theorem T.ln72 : aLen Try.prog 48 (.slice none 0 0) = some (.int .i64 0) := len_nil T.i72
theorem T.parts140 {H : Heap} {e : Env} {K : Value → Heap → Prop} {d : Option Tmp} {ty : TypeId} {ps : String} {af : Array Edge} {gd : Option (Nat × Bool)} {parts : List (Nat × Operand)} {len : Nat} (hlen : len ≤ 2 ^ 24) : aStep Try.prog e H ⟨d, .buildSlice 104 len ⟨parts⟩, ty, ps, af, gd⟩ K = ob (evps e parts) fun vs => ob (pFill (.int .u8 0) len vs) fun cs => K (.slice (some ⟨H.next, 0, none⟩) len len) (H.push (.row true 5 cs)) :=
  s_parts Try.underlying104 (info_of_type Try.type5) (z := .int .u8 0) rfl rfl rfl rfl hlen
theorem T.make140 {H : Heap} {e : Env} {K : Value → Heap → Prop} {d : Option Tmp} {ty : TypeId} {ps : String} {af : Array Edge} {gd : Option (Nat × Bool)} {x y : Operand} : aStep Try.prog e H ⟨d, .makeSlice 104 x y, ty, ps, af, gd⟩ K = ob (e x) fun a => ob (e y) fun b => ob (aMk 1 a b) fun p => K (.slice (some ⟨H.next, 0, none⟩) p.1 p.2) (H.push (.row true 5 (List.replicate p.2 (.int .u8 0)))) :=
  s_make Try.underlying104 (info_of_type Try.type5) (z := .int .u8 0) rfl rfl rfl rfl
theorem T.nil140 {x y : Operand} {v : Value} (h : isSlc v = true) {n c : Nat} : aBin Try.prog .eql 104 x y v (.slice none n c) = some (.bool (isNil v)) := bin_isNil Try.underlying104 h
theorem T.lz140 {n : Nat} {cells : List Value} : aLen Try.prog 104 (fzv n cells) = some (.int .i64 n) := len_fz T.i140
theorem T.lv140 {α : Type} {e : En α} {l : List α} : aLen Try.prog 104 (Vv e l) = some (.int .i64 l.length) := len_fz T.i140
theorem T.iv140 {l : List _} {k : IntKind} {i : Int} (h0 : 0 ≤ i) (h1 : i < l.length) : aIndexAddr Try.prog 104 (Vv eY l) (.int k i) = some (fpv (eY.enc (l.getD i.toNat eY.d))) := idx_Vv Try.underlying104 T.s5 T.z5 rfl h0 h1
theorem T.up140 {H : Heap} {l : List _} {k : IntKind} {i : Int} (h0 : 0 ≤ i) (h1 : i ≤ l.length) : aSlice Try.prog H 104 (Vv eY l) none (some (.int k i)) none = some (Vv eY (l.take i.toNat)) := upto_Vv Try.underlying104 T.s5 T.z5 rfl h0 h1
theorem T.fr140 {H : Heap} {l : List _} {k : IntKind} {i : Int} (h0 : 0 ≤ i) (h1 : i ≤ l.length) : aSlice Try.prog H 104 (Vv eY l) (some (.int k i)) none none = some (Vv eY (l.drop i.toNat)) := from_Vv Try.underlying104 T.s5 T.z5 rfl h0 h1
theorem T.ln140 : aLen Try.prog 104 (.slice none 0 0) = some (.int .i64 0) := len_nil T.i140
theorem T.rows147 {H : Heap} {e : Env} {K : Value → Heap → Prop} {d : Option Tmp} {ty : TypeId} {ps : String} {af : Array Edge} {gd : Option (Nat × Bool)} {parts : List (Nat × Operand)} {len : Nat} (hlen : len ≤ 2 ^ 20) : aStep Try.prog e H ⟨d, .buildSlice 74 len ⟨parts⟩, ty, ps, af, gd⟩ K = ob (evps e parts) fun vs => ob (rFill 2 (Try.t24.zero.getD undef) len vs) fun cs => K (.slice (some ⟨H.next, 0, none⟩) len len) (H.push (.row true 24 cs)) :=
  s_rows (es := 2) Try.underlying74 (info_of_type Try.type24) (z := Try.t24.zero.getD undef) rfl rfl rfl rfl (by omega) (by omega)
theorem T.makes147 {H : Heap} {e : Env} {K : Value → Heap → Prop} {d : Option Tmp} {ty : TypeId} {ps : String} {af : Array Edge} {gd : Option (Nat × Bool)} {x y : Operand} : aStep Try.prog e H ⟨d, .makeSlice 74 x y, ty, ps, af, gd⟩ K = ob (e x) fun a => ob (e y) fun b => ob (aMk 32 a b) fun p => K (.slice (some ⟨H.next, 0, none⟩) p.1 p.2) (H.push (.row true 24 (repC p.2 [.bool false, .slice none 0 0]))) :=
  s_makes (info_of_type Try.type24) Try.underlying74 rfl ⟨rfl, rfl, by decide⟩ rfl
theorem T.nil147 {x y : Operand} {v : Value} (h : isSlc v = true) {n c : Nat} : aBin Try.prog .eql 74 x y v (.slice none n c) = some (.bool (isNil v)) := bin_isNil Try.underlying74 h
theorem T.lz147 {n : Nat} {cells : List Value} : aLen Try.prog 74 (fzv n cells) = some (.int .i64 n) := len_fz T.i147
theorem T.lv147 {α : Type} {e : En α} {l : List α} : aLen Try.prog 74 (Vv e l) = some (.int .i64 l.length) := len_fz T.i147
theorem T.iv147 {l : List _} {k : IntKind} {i : Int} (h0 : 0 ≤ i) (h1 : i < l.length) : aIndexAddr Try.prog 74 (Vv eI l) (.int k i) = some (fpv (eI.enc (l.getD i.toNat eI.d))) := idx_Vv Try.underlying74 T.s24 T.z24 rfl h0 h1
theorem T.up147 {H : Heap} {l : List _} {k : IntKind} {i : Int} (h0 : 0 ≤ i) (h1 : i ≤ l.length) : aSlice Try.prog H 74 (Vv eI l) none (some (.int k i)) none = some (Vv eI (l.take i.toNat)) := upto_Vv Try.underlying74 T.s24 T.z24 rfl h0 h1
theorem T.fr147 {H : Heap} {l : List _} {k : IntKind} {i : Int} (h0 : 0 ≤ i) (h1 : i ≤ l.length) : aSlice Try.prog H 74 (Vv eI l) (some (.int k i)) none none = some (Vv eI (l.drop i.toNat)) := from_Vv Try.underlying74 T.s24 T.z24 rfl h0 h1
theorem T.ln147 : aLen Try.prog 74 (.slice none 0 0) = some (.int .i64 0) := len_nil T.i147
theorem T.b24_   : aBuild Try.prog 24 (some []) = some (.agg ⟨[.bool false, .slice none 0 0]⟩) := by  kernel_rfl
theorem T.b24_0_1 {x : Bool} {y : Value} (hy : isSl y = true) : aBuild Try.prog 24 (some [(0, .bool x), (1, y)]) = some (.agg ⟨[.bool x, y]⟩) := by rcases isSl_form hy with ⟨_, _, _, rfl⟩ | ⟨_, _, rfl⟩ <;> kernel_rfl
theorem T.b24_1 {y : Value} (hy : isSl y = true) : aBuild Try.prog 24 (some [(1, y)]) = some (.agg ⟨[.bool false, y]⟩) := by rcases isSl_form hy with ⟨_, _, _, rfl⟩ | ⟨_, _, rfl⟩ <;> kernel_rfl
theorem T.b55_   : aBuild Try.prog 36 (some []) = some (.agg ⟨[.bool false, .slice none 0 0, .bool false, .slice none 0 0]⟩) := by  kernel_rfl
theorem T.b55_0_1 {x0 : Bool} {x1 : Value} {y0 : Bool} {y1 : Value} (hx1 : isSl x1 = true) (hy1 : isSl y1 = true) : aBuild Try.prog 36 (some [(0, .agg ⟨[.bool x0, x1]⟩), (1, .agg ⟨[.bool y0, y1]⟩)]) = some (.agg ⟨[.bool x0, x1, .bool y0, y1]⟩) := by rcases isSl_form hx1 with ⟨_, _, _, rfl⟩ | ⟨_, _, rfl⟩ <;> rcases isSl_form hy1 with ⟨_, _, _, rfl⟩ | ⟨_, _, rfl⟩ <;> kernel_rfl
theorem T.b55_1 {y0 : Bool} {y1 : Value} (hy1 : isSl y1 = true) : aBuild Try.prog 36 (some [(1, .agg ⟨[.bool y0, y1]⟩)]) = some (.agg ⟨[.bool false, .slice none 0 0, .bool y0, y1]⟩) := by rcases isSl_form hy1 with ⟨_, _, _, rfl⟩ | ⟨_, _, rfl⟩ <;> kernel_rfl
attribute [go_sem] T.l2 T.lp2 T.w2 T.alloc2 T.l3 T.lp3 T.w3 T.alloc3 T.l4 T.lp4 T.w4 T.alloc4
attribute [go_sem] T.l5 T.lp5 T.w5 T.alloc5 T.l9 T.lp9 T.w9 T.alloc9 T.l22 T.lp22 T.w22 T.alloc22
attribute [go_sem] T.f24_0 T.fs24_0 T.fp24_0 T.fd24_0 T.f24_1 T.fs24_1 T.fp24_1 T.fd24_1 T.l24 T.lp24 T.w24 T.alloc24
attribute [go_sem] T.l27 T.lp27 T.w27 T.alloc27 T.l50 T.lp50 T.w50 T.alloc50 T.f55_0 T.fs55_0 T.fp55_0 T.fd55_0
attribute [go_sem] T.f55_1 T.fs55_1 T.fp55_1 T.fd55_1 T.l55 T.lp55 T.w55 T.alloc55 T.l70 T.lp70 T.w70 T.alloc70
attribute [go_sem] T.l72 T.lp72 T.w72 T.alloc72 T.l140 T.lp140 T.w140 T.alloc140 T.l147 T.lp147 T.w147 T.alloc147
attribute [go_sem] T.l155 T.lp155 T.w155 T.alloc155 T.l156 T.lp156 T.w156 T.alloc156 T.e4 T.n4 T.c2_2 T.c2_3
attribute [go_sem] T.c2_5 T.c2_27 T.c2_50 T.c2_155 T.c2_156 T.c3_2 T.c3_3 T.c3_5 T.c3_27 T.c3_50 T.c3_155 T.c3_156
attribute [go_sem] T.c5_2 T.c5_3 T.c5_5 T.c5_27 T.c5_50 T.c5_155 T.c5_156 T.c27_2 T.c27_3 T.c27_5 T.c27_27 T.c27_50
attribute [go_sem] T.c27_155 T.c27_156 T.c50_2 T.c50_3 T.c50_5 T.c50_27 T.c50_50 T.c50_155 T.c50_156 T.c155_2 T.c155_3 T.c155_5
attribute [go_sem] T.c155_27 T.c155_50 T.c155_155 T.c155_156 T.c156_2 T.c156_3 T.c156_5 T.c156_27 T.c156_50 T.c156_155 T.c156_156 T.parts22
attribute [go_sem] T.make22 T.iv22 T.up22 T.fr22 T.nil22 T.lz22 T.lv22 T.ln22 T.rows70 T.makes70 T.iv70 T.up70
attribute [go_sem] T.fr70 T.nil70 T.lz70 T.lv70 T.ln70 T.parts72 T.make72 T.iv72 T.up72 T.fr72 T.nil72 T.lz72
attribute [go_sem] T.lv72 T.ln72 T.parts140 T.make140 T.iv140 T.up140 T.fr140 T.nil140 T.lz140 T.lv140 T.ln140 T.rows147
attribute [go_sem] T.makes147 T.iv147 T.up147 T.fr147 T.nil147 T.lz147 T.lv147 T.ln147 T.b24_ T.b24_0_1 T.b24_1 T.b55_
attribute [go_sem] T.b55_0_1 T.b55_1
end Go.Abs
